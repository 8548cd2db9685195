import Derived.Test.YtoigkneoaemcfaaDoorNoRcOwn
import Derived.Test.YtoigkneoaemcfaaDoorNoM8
import Derived.Test.YtoigkneoaemcfaaDoorNoM1
import Derived.Deep.CutBlock
namespace Go.Proofs.YtoigkneoaemcfaaDoor.Rec
open Go.RowKit Go.Lib Go.Proofs.YtoigkneoaemcfaaDoorW.PrintWords Go.Proofs.YtoigkneoaemcfaaDoorW.PrintLast Go.Proofs.YtoigkneoaemcfaaDoorW.PrintMore Go.Proofs.YtoigkneoaemcfaaDoor.B Go.Proofs.YtoigkneoaemcfaaDoor.Bd Go.Proofs.YtoigkneoaemcfaaDoor.Tab Go.Proofs.YtoigkneoaemcfaaDoor.GN
set_option linter.unusedVariables false
set_option linter.unusedSimpArgs false
theorem own_of_int {w:World} {base:Nat} {v:Value} {l:List Int} (h:Kd.R (Kd.int .i64) 3 w base (fun _ => True) v l):w.ownsRow base 3 1 v l.length (l.map i64V):=Kw.own_of_R (enc:=i64V) (h1:=fun _ => rfl) h
def Made (w:World) (base:Nat) (v1 v2 v3:Value) (l1:List Int) (l2:List ByteArray) (l3:List Int):Prop :=
  w.ownsRow base 2 1 v1 l1.length (l1.map i64V)∧w.ownsRow base 9 1 v2 l2.length (l2.map Value.string)∧w.ownsRow base 3 1 v3 l3.length (l3.map i64V)
theorem mv4 (w:World) (r:Nat) (u0 u1 u2 u3:Value):Mv (one r) w ((((w.setCell ⟨r,0,none⟩ u0).setCell ⟨r,1,none⟩ u1).setCell ⟨r,2,none⟩ u2).setCell ⟨r,3,none⟩ u3) :=
  ((((Mv.refl (one r) w).setCell (p:=⟨r,0,none⟩) (.inl rfl) u0).setCell (p:=⟨r,1,none⟩) (.inl rfl) u1).setCell (p:=⟨r,2,none⟩) (.inl rfl) u2).setCell (p:=⟨r,3,none⟩) (.inl rfl) u3
theorem ownK_stop {at':Int} {n:Nat} {c:Cur.Cur} {a:List Int} (h:n = 0 ∨ c.e≠0):ownK at' n c a = (c,a):=by
  rcases h with rfl | h
  · rfl
  · exact ownK_err at' n a h
section
variable (F:Nat→Prop) (g p:Nat) (L:List ByteArray) (c:Cur.Cur) (at' edges:Int) (w:World)
def GetPost (e:Ending) (w':World):Prop:=∃ v1 v2 v3,e = .returned (.agg #[.int .i64 (getR at' edges L c).2.1,v1,v2,v3])∧Cur.IsC w' g (getR at' edges L c).1∧(getR at' edges L c).1.ok∧Made w' w.heap.size v1 v2 v3 (getR at' edges L c).2.2.1 (getR at' edges L c).2.2.2.1 (getR at' edges L c).2.2.2.2∧Mv (one g) w w'
theorem get_none {w':World} {c':Cur.Cur} (hR:getR at' edges L c = (c',0,[],[],[])) (hC:Cur.IsC w' g c') (hok:c'.ok) (hm:Mv (one g) w w'):GetPost g L c at' edges w (.returned (.agg #[.int .i64 0,.slice none 0 0,.slice none 0 0,.slice none 0 0])) w':=by
  refine ⟨_,_,_,by rw [hR],by rw [hR];exact hC,by rw [hR];exact hok,by rw [hR];exact ⟨World.ownsRow_nil _ _ _ _,World.ownsRow_nil _ _ _ _,World.ownsRow_nil _ _ _ _⟩,hm⟩
set_option maxHeartbeats 8000000 in
set_option maxRecDepth 100000 in
theorem recget_calls (hC:Cur.IsC w g c) (hok:c.ok) (hT:IsTab w F p L) (hg:¬ F g) (he:edges≤9223372036854775807) (hat:-9223372036854775808≤at'∧at'≤9223372036854775807) :
    Calls Tryd.prog 22 #[.pointer (some ⟨g,0,none⟩),.int .i64 at',.pointer (some ⟨p,0,none⟩),.int .i64 edges] w fun e w' => GetPost g L c at' edges w e w':=by
  obtain ⟨i0,hi0,hz0,hz1,hz2⟩:=info_parts (show (Tryd.prog.info? 3).map (fun i => (i.zero,i.size,i.bytes)) = some (some (.int .i64 0),1,8) from by kernel_rfl)
  have HC:=Lib.hid hC
  have HT:=Lib.hid hT
  have HLT:=Lib.hid hT.lt
  have hgw:=hC.lt
  obtain ⟨hat0,hat1⟩:=hat
  have hu1:IntKind.u64.wrap (max edges 0) = max edges 0:=by rw [VM.u64_wrap];omega
  clear hC hT
  go_enter Tryd.func22,Tryd.ntmps22
  go_upto_region 1 with (fail)
  obtain ⟨r,hr⟩:∃ r,r = w.heap.size:=⟨_,rfl⟩
  have hb1:Below w.heap.size w (w.alloc (.cells #[.int .i64 0,.slice none 0 0,.slice none 0 0,.slice none 0 0] 40)):=(Below.refl _ _).alloc (Nat.le_refl _) _
  have hr1:NBox (w.alloc (.cells #[.int .i64 0,.slice none 0 0,.slice none 0 0,.slice none 0 0] 40)) r 0 (.slice none 0 0) (.slice none 0 0) (.slice none 0 0):=by rw [hr];exact heap_alloc_new w _
  rw [← hr]
  generalize w.alloc (.cells #[.int .i64 0,.slice none 0 0,.slice none 0 0,.slice none 0 0] 40) = w1 at *
  have HR1:=Lib.hid hr1
  have hq1:w.heap.size≤r:=by omega
  have hq2:r≤w.heap.size:=by omega
  have HB1:=Lib.hid hb1
  have HC1:=Lib.hid (HC.out.below hb1)
  clear hr1 hb1 hr
  go_wp2_with (fail)
  refine (Cur.uint_calls g c 16777216 _ HC1.out hok (by decide)).mono ?_
  rintro e w2 ⟨rfl,hC2,hM2⟩
  have HC2:=Lib.hid hC2
  have HM2:=Lib.hid ((Mv.of_below (S:=one g) HB1.out).trans hM2 (fun k hk => .inl hk))
  have HR2:=Lib.hid (show NBox w2 r 0 (.slice none 0 0) (.slice none 0 0) (.slice none 0 0) from hM2.keep HR1.out (fun e => by have e2:r = g:=e;omega))
  have hok2:=Cur.uint_ok hok 16777216
  have HT2:=Lib.hid (HT.out.mv HM2.out (fun k hk e => hg (by have e2:k = g:=e;rwa [← e2])))
  have HDEF:=Lib.hid (show getR at' edges L c = getR at' edges L c from rfl)
  have HGR:Hid (getR at' edges L c = if (newS (c.uint 16777216).1).2.2.2.2 = true then
    (if (getK (c.uint 16777216).1 at' edges (getT (c.uint 16777216).1 L (c.uint 16777216).2).1).1.e≠0 then ((getK (c.uint 16777216).1 at' edges (getT (c.uint 16777216).1 L (c.uint 16777216).2).1).1,0,[],[],[])
     else ((getK (c.uint 16777216).1 at' edges (getT (c.uint 16777216).1 L (c.uint 16777216).2).1).1,(c.uint 16777216).1,(getI (c.uint 16777216).1 (c.uint 16777216).2).2,(getT (c.uint 16777216).1 L (c.uint 16777216).2).2,(getK (c.uint 16777216).1 at' edges (getT (c.uint 16777216).1 L (c.uint 16777216).2).1).2))
  else ((c.uint 16777216).2.fail 9,0,[],[],[])):=Lib.hid rfl
  clear hC2 hM2
  generalize (c.uint 16777216).1 = k at *
  generalize (c.uint 16777216).2 = c2 at *
  go_upto_region 2 with (fail)
  obtain ⟨b,hb⟩:∃ b,b = w2.heap.size:=⟨_,rfl⟩
  have hb3:Below w2.heap.size w2 (w2.alloc (.cells #[.int .i64 k,.slice none 0 0,.slice none 0 0,.slice none 0 0] 40)):=(Below.refl _ _).alloc (Nat.le_refl _) _
  have hsz2:=HM2.out.size
  have hrw:=blk_lt HR2.out
  have hG3:Gt w (w2.alloc (.cells #[.int .i64 k,.slice none 0 0,.slice none 0 0,.slice none 0 0] 40)) g b p F L c2 k (.slice none 0 0) (.slice none 0 0) (.slice none 0 0) [] [] [] :=
    ⟨HM2.out.alloc _,HC2.out.below hb3,hok2,HT2.out.below hb3,by rw [hb];exact heap_alloc_new w2 _,World.ownsRow_nil _ _ _ _,World.ownsRow_nil _ _ _ _,World.ownsRow_nil _ _ _ _,by omega,HLT.out,hg,hgw⟩
  have HR3:=Lib.hid (HR2.out.below hb3)
  have hrb:r < b:=by omega
  have hs3:w.heap.size≤(w2.alloc (.cells #[.int .i64 k,.slice none 0 0,.slice none 0 0,.slice none 0 0] 40)).heap.size:=by simp;omega
  rw [← hb]
  generalize w2.alloc (.cells #[.int .i64 k,.slice none 0 0,.slice none 0 0,.slice none 0 0] 40) = w3 at *
  have HG3:=Lib.hid hG3
  obtain ⟨x0,x1,x2,x3⟩:=hG3.box.cells
  obtain ⟨⟨m0,s1,s2,s3,ok⟩,hS⟩:∃ x,x = newS k:=⟨_,rfl⟩
  have HS:=Lib.hid hS
  clear hS hG3 hb3 hb
  go_wp2_with (fail)
  refine (schema_New.calls k m0 s1 s2 s3 ok w3 (by rw [new_code,← HS.out])).mono ?_
  rintro e w4 ⟨v4,rfl,ho4,hb4⟩
  have hsp4:=own_of_int (Kd.R_lower ho4 hs3)
  obtain ⟨B0,d0,rfl⟩:=row_slice hsp4
  have HG4:=Lib.hid (HG3.out.below hb4)
  have HR4:=Lib.hid (HR3.out.below hb4)
  have HS4:=Lib.hid hsp4
  clear hb4 ho4 hsp4 x0 x1 x2 x3
  go_upto_region 3 with (fail)
  obtain ⟨s,hs⟩:∃ s,s = w4.heap.size:=⟨_,rfl⟩
  have hb5:Below w4.heap.size w4 (w4.alloc (.cells #[.slice B0 m0.length d0,.int .i64 s1,.int .i64 s2,.int .i64 s3] 97)):=(Below.refl _ _).alloc (Nat.le_refl _) _
  have hn5:=heap_alloc_new w4 (.cells #[.slice B0 m0.length d0,.int .i64 s1,.int .i64 s2,.int .i64 s3] 97)
  have hbs:b < s:=by rw [hs];exact blk_lt HG4.out.box
  rw [← hs] at hn5 ⊢
  generalize w4.alloc (.cells #[.slice B0 m0.length d0,.int .i64 s1,.int .i64 s2,.int .i64 s3] 97) = w5 at *
  have HG5:=Lib.hid (HG4.out.below hb5)
  have HR5:=Lib.hid (HR4.out.below hb5)
  have HS5:=Lib.hid (row_mv HS4.out (Mv.of_below (S:=nil) hb5) (fun _ _ h => h))
  have HN5:=Lib.hid hn5
  clear hs hb5 hn5 HG4 HR4 HS4 HG3 HR3
  cases ok with
  | false =>
    have HR0:=Lib.hid (show getR at' edges L c = (c2.fail 9,0,[],[],[]) by rw [HGR.out,← HS.out,if_neg (by simp)])
    go_wp2_with (fail)
    refine (Cur.fail_calls g c2 9 _ HG5.out.cur).mono ?_
    rintro e w6 ⟨rfl,hC6,hM6⟩
    have HG6:=Lib.hid (HG5.out.turn hC6 (Cur.fail_ok HG5.out.cok 9) hM6)
    have HR6:=Lib.hid (show NBox w6 r 0 (.slice none 0 0) (.slice none 0 0) (.slice none 0 0) from hM6.keep HR5.out (fun e => by have e2:r = g:=e;omega))
    obtain ⟨z0,z1,z2,z3⟩:=HR6.out.cells
    have f0:=blk_frozen HR6.out 0
    have f1:=blk_frozen HR6.out 1
    have f2:=blk_frozen HR6.out 2
    have f3:=blk_frozen HR6.out 3
    clear hC6 hM6
    go_wp2_with (fail)
    have hp3:=blk_put (blk_put (blk_put (blk_put HR6.out 0 (.int .i64 0) rfl) 1 (.slice none 0 0) rfl) 2 (.slice none 0 0) rfl) 3 (.slice none 0 0) rfl
    refine bodyPost_ret (results_cell_row rfl _ _ r 40 #[.int .i64 0,.slice none 0 0,.slice none 0 0,.slice none 0 0] (0,0) _ rfl hp3 Tryd.underlying40 rfl (by kernel_rfl)) rfl ?_
    have m4:=mv4 w6 r (.int .i64 0) (.slice none 0 0) (.slice none 0 0) (.slice none 0 0)
    exact get_none g L c at' edges w HR0.out (HG6.out.cur.mv m4 (fun e => by have e2:g = r:=e;omega)) HG6.out.cok (HG6.out.mv.trans m4 (fun k hk => .inr (by have e2:k = r:=hk;omega)))
  | true =>
    have hok5:(newS k).2.2.2.2 = true:=by rw [← HS.out]
    obtain ⟨k1,k8,t0,t1,t2,t3⟩:=newS_ok hok5
    rw [← HS.out] at t0 t1 t2 t3
    have HGR2:=Lib.hid (HGR.out.trans (if_pos hok5))
    have y0:w5.cell? ⟨s,0,none⟩ = some (.slice B0 m0.length d0):=(blk_cell HN5.out 0).trans rfl
    have y1:w5.cell? ⟨s,1,none⟩ = some (.int .i64 s1):=(blk_cell HN5.out 1).trans rfl
    have y2:w5.cell? ⟨s,2,none⟩ = some (.int .i64 s2):=(blk_cell HN5.out 2).trans rfl
    have y3:w5.cell? ⟨s,3,none⟩ = some (.int .i64 s3):=(blk_cell HN5.out 3).trans rfl
    have hsw:=blk_lt HN5.out
    clear hok5 HGR
    go_wp2_with (fail)
    refine (own_calls w g b p F L c2 k B0 d0 m0 s1 s2 s3 w5 HG5.out HS5.out t2 t0 t1).mono ?_
    rintro e w6 ⟨v1,v2,a1,a2,rfl,hG6,hE6,hM6⟩
    have hgT:getT k L c2 = ownT L s1.toNat (ownI m0 c2 []).1 []:=by unfold getT getI;rw [← HS.out]
    have hgI:getI k c2 = ownI m0 c2 []:=by unfold getI;rw [← HS.out]
    rw [← hgT] at hG6 hE6
    rw [← hgI] at hE6
    have HG6:=Lib.hid hG6
    have HE6:=Lib.hid hE6
    have HR6:=Lib.hid (show NBox w6 r 0 (.slice none 0 0) (.slice none 0 0) (.slice none 0 0) from hM6.keep HR5.out (fun e => by rcases e with e | e | e <;> omega))
    have HN6:=Lib.hid (hM6.keep HN5.out (fun e => by rcases e with e | e | e <;> omega))
    clear hgT hgI hG6 hE6 hM6 y0 y1 y2 y3 HG5 HR5 HS5 HN5
    obtain ⟨FI,hFI⟩:∃ x,x = (getI k c2).2:=⟨_,rfl⟩
    obtain ⟨FT,hFT⟩:∃ x,x = (getT k L c2).2:=⟨_,rfl⟩
    rw [← hFI,← hFT] at HE6 HGR2
    clear hFI hFT
    generalize (getT k L c2).1 = c6 at *
    have HCN:=Lib.hid (show cntC k edges c6 = if (c6.uint (max edges 0)).1 < s2 ∨ (0≤s3∧s3 < (c6.uint (max edges 0)).1) then (c6.uint (max edges 0)).2.fail 12 else (c6.uint (max edges 0)).2 from by unfold cntC;rw [← HS.out])
    have HGK:=Lib.hid (show getK k at' edges c6 = ownK at' (c6.uint (max edges 0)).1.toNat (cntC k edges c6) [] from rfl)
    have HE7:=Lib.hid (show (c6.uint (max edges 0)).2.e = 0→a1 = FI∧a2 = FT from fun h => HE6.out (by
      by_cases h0:c6.e = 0
      · exact h0
      · rw [uint_err h0] at h;exact h))
    go_wp2_with (fail)
    try rw [hu1]
    refine (Cur.uint_calls g c6 (max edges 0) _ HG6.out.cur HG6.out.cok (by omega)).mono ?_
    have hur:=Cur.uint_range (c:=c6) (max edges 0)
    rintro e w7 ⟨rfl,hC7,hM7⟩
    have HG7:=Lib.hid (HG6.out.turn hC7 (Cur.uint_ok HG6.out.cok _) hM7)
    have HR7:=Lib.hid (show NBox w7 r 0 (.slice none 0 0) (.slice none 0 0) (.slice none 0 0) from hM7.keep HR6.out (fun e => by have e2:r = g:=e;omega))
    have HN7:=Lib.hid (hM7.keep HN6.out (fun e => by have e2:s = g:=e;omega))
    have y2:w7.cell? ⟨s,2,none⟩ = some (.int .i64 s2):=(blk_cell HN7.out 2).trans rfl
    have y3:w7.cell? ⟨s,3,none⟩ = some (.int .i64 s3):=(blk_cell HN7.out 3).trans rfl
    clear hC7 hM7 HG6 HR6 HN6 HE6
    generalize (c6.uint (max edges 0)).2 = c7 at *
    obtain ⟨nn,hnn⟩:=Int.eq_ofNat_of_zero_le hur.1
    rw [hnn] at HCN HGK hur ⊢
    clear hnn
    go_upto_region 8 with (fail)
    obtain ⟨bq,hbq⟩:∃ bq:Bool,bq = decide ((nn:Int) < s2 ∨ (0≤s3∧s3 < (nn:Int))):=⟨_,rfl⟩
    go_cut [52] (fun v52 wx => v52 = .bool bq∧w7 = wx)
    case first =>
      by_cases d1:(nn:Int) < s2
      · have e1:decide ((nn:Int) < s2) = true:=decide_eq_true d1
        have hq:bq = true:=by rw [hbq];exact decide_eq_true (.inl d1)
        clear hbq
        go_wp2_with (fail)
        go_meet
        exact ⟨by rw [hq],rfl⟩
      · have e1:decide ((nn:Int) < s2) = false:=decide_eq_false d1
        by_cases d2:s3 ≥ 0
        · have e2:decide (s3 ≥ 0) = true:=decide_eq_true d2
          by_cases d3:(nn:Int) > s3
          · have e3:decide ((nn:Int) > s3) = true:=decide_eq_true d3
            have hq:bq = true:=by rw [hbq];exact decide_eq_true (.inr ⟨d2,d3⟩)
            clear hbq
            go_wp2_with (fail)
            go_meet
            exact ⟨by rw [hq],rfl⟩
          · have e3:decide ((nn:Int) > s3) = false:=decide_eq_false d3
            have hq:bq = false:=by rw [hbq];exact decide_eq_false (by omega)
            clear hbq
            go_wp2_with (fail)
            go_meet
            exact ⟨by rw [hq],rfl⟩
        · have e2:decide (s3 ≥ 0) = false:=decide_eq_false d2
          have hq:bq = false:=by rw [hbq];exact decide_eq_false (by omega)
          clear hbq
          go_wp2_with (fail)
          go_meet
          exact ⟨by rw [hq],rfl⟩
    case rest =>
    obtain ⟨rfl,rfl⟩:=hcut
    obtain ⟨c8,hc8⟩:∃ c8,c8 = cntC k edges c6:=⟨_,rfl⟩
    have hcc:c8 = if bq = true then c7.fail 12 else c7:=by
      rw [hc8,HCN.out,hbq]
      by_cases hd:(nn:Int) < s2 ∨ (0≤s3∧s3 < (nn:Int))
      · rw [if_pos hd,decide_eq_true hd,if_pos rfl]
      · rw [if_neg hd,decide_eq_false hd,if_neg (by simp)]
    rw [← hc8] at HGK
    have HE8:=Lib.hid (show c8.e = 0→a1 = FI∧a2 = FT from fun h => HE7.out (by
      rw [hcc] at h
      split at h
      · exact absurd h (fail_ne _ (by decide))
      · exact h))
    clear y2 y3 hbq hc8 HCN HE7
    go_upto_if 52 with (fail)
    go_cut [] (fun wx => Aside0 (Gt w wx g b p F L c8 k v1 v2 (.slice none 0 0) a1 a2 [])∧Aside0 (NBox wx r 0 (.slice none 0 0) (.slice none 0 0) (.slice none 0 0)))
    case first =>
      cases bq with
      | true =>
        rw [if_pos rfl] at hcc
        go_wp2_with (fail)
        refine (Cur.fail_calls g c7 12 _ HG7.out.cur).mono ?_
        rintro e w8 ⟨rfl,hC8,hM8⟩
        have HG8:=Lib.hid (HG7.out.turn hC8 (Cur.fail_ok HG7.out.cok 12) hM8)
        have HR8:=Lib.hid (show NBox w8 r 0 (.slice none 0 0) (.slice none 0 0) (.slice none 0 0) from hM8.keep HR7.out (fun e => by have e2:r = g:=e;omega))
        clear hC8 hM8
        subst hcc
        go_wp2_with (fail)
        go_meet
        exact ⟨⟨HG8.out⟩,⟨HR8.out⟩⟩
      | false =>
        rw [if_neg (by simp)] at hcc
        subst hcc
        go_wp2_with (fail)
        go_meet
        exact ⟨⟨HG7.out⟩,⟨HR7.out⟩⟩
    case rest =>
    obtain ⟨hG8,hR8⟩:=hcut
    clear hcc HG7 HR7 HN7
    go_upto_block 0 with (fail)
    go_cut [13,14] (fun v13 v14 wx => ∃ (x y v3:Value) (c':Cur.Cur) (a3:List Int),v13 = x∧v14 = y∧Aside0 (Gt w wx g b p F L c' k v1 v2 v3 a1 a2 a3)∧Aside0 (NBox wx r 0 (.slice none 0 0) (.slice none 0 0) (.slice none 0 0))∧Aside0 ((getK k at' edges c6).1 = c')∧Aside0 (c'.e = 0→a1 = FI∧a2 = FT∧a3 = (getK k at' edges c6).2))
    case first =>
      go_wp2_with (fail)
      go_loopg [13,14] nn (fun kq v13 v14 wr => ∃ (i:Nat) (y v3:Value) (c':Cur.Cur) (a3:List Int),v13 = .int .i64 (i:Int)∧v14 = y∧i+kq = nn∧Aside0 (a3.length = i)∧Aside0 (Gt w wr g b p F L c' k v1 v2 v3 a1 a2 a3)∧Aside0 (NBox wr r 0 (.slice none 0 0) (.slice none 0 0) (.slice none 0 0))∧Aside0 ((ownK at' kq c' a3).1 = (getK k at' edges c6).1)∧Aside0 (c'.e = 0→a1 = FI∧a2 = FT∧(ownK at' kq c' a3).2 = (getK k at' edges c6).2))
      case atStart => exact ⟨0,_,_,c8,[],rfl,rfl,by omega,⟨rfl⟩,⟨hG8.out⟩,⟨hR8.out⟩,⟨by rw [HGK.out,Int.toNat_natCast]⟩,⟨fun h => ⟨(HE8.out h).1,(HE8.out h).2,by rw [HGK.out,Int.toNat_natCast]⟩⟩⟩
      case round =>
        clear hG8 hR8
        obtain ⟨i,y,v3,c',a3,rfl,rfl,hik,hla,hG,hR,hE,hF⟩:=hrel
        obtain ⟨wo,hwo⟩:∃ z,z = wr:=⟨_,rfl⟩
        subst hwo
        by_cases hlt:(i:Int) < (nn:Int)
        · have t4:decide ((i:Int) < (nn:Int)) = true:=decide_eq_true hlt
          obtain ⟨ko,rfl⟩:∃ g,gk = g+1:=⟨gk - 1,by omega⟩
          go_wp2_with (fail)
          refine (Cur.err_calls g c' _ hG.out.cur).mono ?_
          rintro e w9 ⟨rfl,rfl⟩
          by_cases hc0:c'.e = 0
          · have t5:(c'.e == 0) = true:=by simpa using hc0
            have h1:=hE.out
            have h2:=hF.out hc0
            rw [ownK,if_neg (show ¬ c'.e≠0 by simpa using hc0)] at h1 h2
            have H1:=Lib.hid h1
            have H2:=Lib.hid h2
            clear h1 h2
            have hl4:a3.length≤16777216:=by have:=hla.out;omega
            have hur2:=Cur.uint_range (c:=c') 16777216
            clear hF hE
            go_wp2_with (fail)
            refine (Cur.uint_calls g c' 16777216 _ hG.out.cur hG.out.cok (by decide)).mono ?_
            rintro e w10 ⟨rfl,hC10,hM10⟩
            have HG10:=Lib.hid (hG.out.turn hC10 (Cur.uint_ok hG.out.cok _) hM10)
            have HR10:=Lib.hid (show NBox w10 r 0 (.slice none 0 0) (.slice none 0 0) (.slice none 0 0) from hM10.keep hR.out (fun e => by have e2:r = g:=e;omega))
            clear hC10 hM10 hG hR
            generalize (c'.uint 16777216).2 = c10 at *
            generalize (c'.uint 16777216).1 = bk at *
            go_upto_region 14 with (fail)
            obtain ⟨bz,hbz⟩:∃ bz:Bool,bz = decide (bk < 1 ∨ at' < bk):=⟨_,rfl⟩
            go_cut [73] (fun v73 wx => v73 = .bool bz∧w10 = wx)
            case first =>
              by_cases d1:bk < 1
              · have e1:decide (bk < 1) = true:=decide_eq_true d1
                have hq:bz = true:=by rw [hbz];exact decide_eq_true (.inl d1)
                clear hbz
                go_wp2_with (fail)
                go_meet
                exact ⟨by rw [hq],rfl⟩
              · have e1:decide (bk < 1) = false:=decide_eq_false d1
                by_cases d2:bk > at'
                · have e2:decide (bk > at') = true:=decide_eq_true d2
                  have hq:bz = true:=by rw [hbz];exact decide_eq_true (.inr d2)
                  clear hbz
                  go_wp2_with (fail)
                  go_meet
                  exact ⟨by rw [hq],rfl⟩
                · have e2:decide (bk > at') = false:=decide_eq_false d2
                  have hq:bz = false:=by rw [hbz];exact decide_eq_false (by omega)
                  clear hbz
                  go_wp2_with (fail)
                  go_meet
                  exact ⟨by rw [hq],rfl⟩
            case rest =>
            obtain ⟨rfl,rfl⟩:=hcut
            obtain ⟨cf,hcf⟩:∃ cf,cf = (if bk < 1 ∨ at' < bk then c10.fail 13 else c10):=⟨_,rfl⟩
            have hcc:cf = if bz = true then c10.fail 13 else c10:=by
              rw [hcf,hbz]
              by_cases hd:bk < 1 ∨ at' < bk
              · rw [if_pos hd,decide_eq_true hd,if_pos rfl]
              · rw [if_neg hd,decide_eq_false hd,if_neg (by simp)]
            have hHST:∀ x:Int,(cf.e = 0→x = at' - bk)→(ownK at' ko cf (a3 ++ [x])).1 = (getK k at' edges c6).1∧(cf.e = 0→a1 = FI∧a2 = FT∧(ownK at' ko cf (a3 ++ [x])).2 = (getK k at' edges c6).2):=fun x hx => by
              have g1:=H1.out
              have g2:=H2.out
              rw [← hcf] at g1 g2
              by_cases h0:cf.e = 0
              · rw [hx h0];exact ⟨g1,fun _ => g2⟩
              · rw [ownK_err _ _ _ h0] at g1 ⊢
                exact ⟨g1,fun h => absurd h h0⟩
            have hwx:cf.e = 0→IntKind.i64.wrap (at' - bk) = at' - bk:=fun h => by
              rw [hcf] at h
              split at h
              · exact absurd h (fail_ne _ (by decide))
              · rename_i hd
                rw [IntKind.wrap_i64];omega
            have HST:=Lib.hid (hHST (IntKind.i64.wrap (at' - bk)) hwx)
            clear hHST hwx H1 H2
            clear hbz hcf
            go_upto_if 73 with (fail)
            go_cut [] (fun wx => Aside0 (Gt w wx g b p F L cf k v1 v2 v3 a1 a2 a3)∧Aside0 (NBox wx r 0 (.slice none 0 0) (.slice none 0 0) (.slice none 0 0)))
            case first =>
              cases bz with
              | true =>
                rw [if_pos rfl] at hcc
                go_wp2_with (fail)
                refine (Cur.fail_calls g c10 13 _ HG10.out.cur).mono ?_
                rintro e w8 ⟨rfl,hC8,hM8⟩
                have HG8:=Lib.hid (HG10.out.turn hC8 (Cur.fail_ok HG10.out.cok 13) hM8)
                have HR8:=Lib.hid (show NBox w8 r 0 (.slice none 0 0) (.slice none 0 0) (.slice none 0 0) from hM8.keep HR10.out (fun e => by have e2:r = g:=e;omega))
                clear hC8 hM8
                subst hcc
                go_wp2_with (fail)
                go_meet
                exact ⟨⟨HG8.out⟩,⟨HR8.out⟩⟩
              | false =>
                rw [if_neg (by simp)] at hcc
                subst hcc
                go_wp2_with (fail)
                go_meet
                exact ⟨⟨HG10.out⟩,⟨HR10.out⟩⟩
            case rest =>
            obtain ⟨hG11,hR11⟩:=hcut
            clear hcc HG10 HR10
            obtain ⟨A3,cp3,hv3⟩:=row_slice hG11.out.o3
            subst hv3
            obtain ⟨_,_,_,x3⟩:=hG11.out.box.cells
            obtain ⟨xv,hxv⟩:∃ xv,xv = IntKind.i64.wrap (at' - bk):=⟨_,rfl⟩
            rw [← hxv] at HST
            have hxw:IntKind.i64.wrap (at' - bk) = xv:=hxv.symm
            clear hxv
            go_wp2_with (first
              | (at_builtin;(try simp only [hxw]);refine wpList_append_own_at _ rfl _ _ 38 rfl w.heap.size 3 i0 (.int .i64 0) 1 8 Tryd.underlying38 hi0 hz0 hz1 hz2 rfl (by decide) (.slice A3 a3.length cp3) a3.length (a3.map i64V) rfl (hG11.out.o3.alloc _) ⟨wc.heap.size,0,none⟩ 1 1 [.int .i64 xv] rfl rfl (cell_one_new wc _ _) (fun u hu => by rw [List.mem_singleton] at hu;subst hu;rfl) (by unfold maxLen;omega) (by omega) (by have:=hG11.out.mv.size;simp;omega) ?_;intro v2 w12 ho2 hg2 _ hl2;obtain ⟨HP,HM⟩:=hG11.out.put3 (x:=xv) hg2 ho2;have HP:=Lib.hid HP;have HM:=Lib.hid HM;obtain ⟨e1,f1⟩:=hG11.out.grown3 hg2;obtain ⟨a4,c4,rfl⟩:=row_slice ho2;clear ho2 hg2 hl2))
            go_roundg ko
            case measure => omega
            case rel => exact ⟨i+1,_,_,cf,a3 ++ [xv],rfl,rfl,by omega,⟨by rw [List.length_append,List.length_singleton,hla.out]⟩,⟨HP.out⟩,⟨HM.out.keep hR11.out (fun e => by
              rcases e with e | e
              · omega
              · exact Lib.ownBlock_ne hG11.out.o3 hR11.out (by decide) e)⟩,⟨HST.out.1⟩,⟨HST.out.2⟩⟩
          · have t5:(c'.e == 0) = false:=by simpa using hc0
            have HX:=Lib.hid (show (getK k at' edges c6).1 = c' by rw [← hE.out,ownK_stop (.inr hc0)])
            have hN:=Lib.hid hc0
            clear hc0 hE hF
            go_wp2_with (fail)
            go_meet
            exact ⟨_,_,_,c',a3,rfl,rfl,⟨hG.out⟩,⟨hR.out⟩,⟨HX.out⟩,⟨fun h => absurd h hN.out⟩⟩
        · have t4:decide ((i:Int) < (nn:Int)) = false:=decide_eq_false hlt
          obtain rfl:gk = 0:=by omega
          have HX:=Lib.hid (show (getK k at' edges c6).1 = c' by rw [← hE.out];rfl)
          have HF:=Lib.hid (show c'.e = 0→a1 = FI∧a2 = FT∧a3 = (getK k at' edges c6).2 from fun h => ⟨(hF.out h).1,(hF.out h).2.1,by rw [← (hF.out h).2.2];rfl⟩)
          clear hE hF
          go_wp2_with (fail)
          go_meet
          exact ⟨_,_,_,c',a3,rfl,rfl,⟨hG.out⟩,⟨hR.out⟩,⟨HX.out⟩,⟨HF.out⟩⟩
    case rest =>
    clear hG8 hR8 HE8
    obtain ⟨x,y,v3,c',a3,rfl,rfl,hG,hR,hX,hF⟩:=hcut
    go_wp2_with (fail)
    refine (Cur.err_calls g c' _ hG.out.cur).mono ?_
    rintro e w9 ⟨rfl,hw9⟩
    subst hw9
    obtain ⟨z0,z1,z2,z3⟩:=hR.out.cells
    have f0:=blk_frozen hR.out 0
    have f1:=blk_frozen hR.out 1
    have f2:=blk_frozen hR.out 2
    have f3:=blk_frozen hR.out 3
    by_cases hc0:c'.e = 0
    · have t5:(c'.e != 0) = false:=by simpa using hc0
      obtain ⟨h1,h2,h3⟩:=hF.out hc0
      have HR0:=Lib.hid (show getR at' edges L c = (c',k,a1,a2,a3) by rw [HGR2.out,hX.out,if_neg (by simpa using hc0),← h1,← h2,← h3])
      obtain ⟨A1,p1,hv1⟩:=row_slice hG.out.o1
      obtain ⟨A2,p2,hv2⟩:=row_slice hG.out.o2
      obtain ⟨A3,p3,hv3⟩:=row_slice hG.out.o3
      subst hv1 hv2 hv3
      obtain ⟨x0,x1,x2,x3⟩:=hG.out.box.cells
      clear h1 h2 h3 hF
      go_wp2_with (fail)
      have hp3:=blk_put (blk_put (blk_put (blk_put hR.out 0 (.int .i64 k) rfl) 1 (.slice A1 a1.length p1) rfl) 2 (.slice A2 a2.length p2) rfl) 3 (.slice A3 a3.length p3) rfl
      refine bodyPost_ret (results_cell_row rfl _ _ r 40 #[.int .i64 k,.slice A1 a1.length p1,.slice A2 a2.length p2,.slice A3 a3.length p3] (0,0) _ rfl hp3 Tryd.underlying40 rfl (by kernel_rfl)) rfl ?_
      have m4:=mv4 wc r (.int .i64 k) (.slice A1 a1.length p1) (.slice A2 a2.length p2) (.slice A3 a3.length p3)
      refine ⟨_,_,_,by rw [HR0.out],by rw [HR0.out];exact hG.out.cur.mv m4 (fun e => by have e2:g = r:=e;omega),by rw [HR0.out];exact hG.out.cok,?_,hG.out.mv.trans m4 (fun k hk => .inr (by have e2:k = r:=hk;omega))⟩
      rw [HR0.out]
      exact ⟨row_mv hG.out.o1 m4 (fun j hj e => Lib.ownBlock_ne hG.out.o1 hR.out (by decide) (by rw [hj,show j = r from e])),row_mv hG.out.o2 m4 (fun j hj e => Lib.ownBlock_ne hG.out.o2 hR.out (by decide) (by rw [hj,show j = r from e])),row_mv hG.out.o3 m4 (fun j hj e => Lib.ownBlock_ne hG.out.o3 hR.out (by decide) (by rw [hj,show j = r from e]))⟩
    · have t5:(c'.e != 0) = true:=bne_iff_ne.mpr hc0
      have HR0:=Lib.hid (show getR at' edges L c = (c',0,[],[],[]) by rw [HGR2.out,hX.out,if_pos hc0])
      go_wp2_with (fail)
      have hp3:=blk_put (blk_put (blk_put (blk_put hR.out 0 (.int .i64 0) rfl) 1 (.slice none 0 0) rfl) 2 (.slice none 0 0) rfl) 3 (.slice none 0 0) rfl
      refine bodyPost_ret (results_cell_row rfl _ _ r 40 #[.int .i64 0,.slice none 0 0,.slice none 0 0,.slice none 0 0] (0,0) _ rfl hp3 Tryd.underlying40 rfl (by kernel_rfl)) rfl ?_
      have m4:=mv4 wc r (.int .i64 0) (.slice none 0 0) (.slice none 0 0) (.slice none 0 0)
      exact get_none g L c at' edges w HR0.out (hG.out.cur.mv m4 (fun e => by have e2:g = r:=e;omega)) hG.out.cok (hG.out.mv.trans m4 (fun k hk => .inr (by have e2:k = r:=hk;omega)))
end
end Go.Proofs.YtoigkneoaemcfaaDoor.Rec
