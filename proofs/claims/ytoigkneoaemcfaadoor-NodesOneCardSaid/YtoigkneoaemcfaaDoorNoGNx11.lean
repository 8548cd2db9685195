
import Derived.Test.YtoigkneoaemcfaaDoorNoM2
import Derived.Test.YtoigkneoaemcfaaDoorNoGNx5
import Derived.Test.YtoigkneoaemcfaaDoorNoM10
namespace Go.Proofs.YtoigkneoaemcfaaDoor.GN
open Go.RowKit Go.Proofs.YtoigkneoaemcfaaDoorW.PrintWords Go.Proofs.YtoigkneoaemcfaaDoorW.PrintLast Go.Proofs.YtoigkneoaemcfaaDoorW.PrintMore
attribute [local go_sem] max2_int min2_int max_two min_two max_three min_three max_four min_four
set_option linter.unusedVariables false
set_option linter.unusedSimpArgs false
section
open Go.Lib
theorem cell_tr {W0 W:World} (hB:Below W0.heap.size W0 W) {a:Addr} {v:Value} (h:W0.cell? a = some v):W.cell? a = some v:=(hB.cell (World.block_lt_of_cell? W0 _ h)).trans h
def tStep (p:List ByteArray × Nat) (t:ByteArray):List ByteArray × Nat:=if t ∈ p.1 then p else (t :: p.1,p.2+t.size)
def textsOf (l0:List S40):List ByteArray:=l0.flatMap (·.f2)
def textN (l0:List S40):Nat:=((textsOf l0).foldl tStep ([],0)).2
theorem tStep_old {m:List ByteArray} {s:Nat} {t:ByteArray} (h:t ∈ m):tStep (m,s) t = (m,s):=if_pos h
theorem tStep_new {m:List ByteArray} {s:Nat} {t:ByteArray} (h:¬ t ∈ m):tStep (m,s) t = (t :: m,s+t.size):=if_neg h
structure TB (l0:List S40):Prop where
  len:l0.length≤1000000
  cnt:(textsOf l0).length≤1000000
  sum:((textsOf l0).map ByteArray.size).sum≤1000000000000
def TBb (l0:List S40):Bool:=decide (l0.length≤1000000) && (decide ((textsOf l0).length≤1000000) && decide (((textsOf l0).map ByteArray.size).sum≤1000000000000))
theorem tb_of {l0:List S40} (h:TBb l0 = true):TB l0:=by
  unfold TBb at h
  simp only [Bool.and_eq_true,decide_eq_true_eq] at h;exact ⟨h.1,h.2.1,h.2.2⟩
structure MI (l0:List S40) (rest:List ByteArray) (m:List ByteArray) (s:Nat):Prop where
  fin:(rest.foldl tStep (m,s)).2 = textN l0
  cnt:m.length+rest.length≤1000000
  sum:s+(rest.map ByteArray.size).sum≤1000000000000
theorem MI.start {l0:List S40} (h:TB l0):MI l0 (textsOf (l0.drop (0:Int).toNat)) [] 0:=⟨rfl,by simpa using h.cnt,by simpa using h.sum⟩
theorem MI.old {l0:List S40} {t:ByteArray} {rest m:List ByteArray} {s:Nat} (h:MI l0 (t :: rest) m s) (ht:t ∈ m):MI l0 rest m s:=by
  have h1:=h.fin;have h2:=h.cnt;have h3:=h.sum;rw [List.foldl_cons,tStep_old ht] at h1;simp only [List.length_cons] at h2;simp only [List.map_cons,List.sum_cons] at h3;exact ⟨h1,by omega,by omega⟩
theorem MI.new {l0:List S40} {t:ByteArray} {rest m:List ByteArray} {s:Nat} (h:MI l0 (t :: rest) m s) (ht:¬ t ∈ m):MI l0 rest (t :: m) (s+t.size):=by
  have h1:=h.fin;have h2:=h.cnt;have h3:=h.sum;rw [List.foldl_cons,tStep_new ht] at h1;simp only [List.length_cons] at h2;simp only [List.map_cons,List.sum_cons] at h3;exact ⟨h1,by simp only [List.length_cons];omega,by omega⟩
theorem texts_step {l0:List S40} {i:Int} {y:S40} (h0:0≤i) (h1:i < (l0.length:Int)) (hy:y = rd_T40 l0 i):textsOf (l0.drop i.toNat) = y.f2 ++ textsOf (l0.drop (i.toNat+1)):=by
  have hil:i.toNat < l0.length:=by omega
  unfold textsOf
  rw [List.drop_eq_getElem_cons hil,List.flatMap_cons,hy];unfold rd_T40
  rw [List.getD_eq_getElem?_getD,List.getElem?_eq_getElem hil];rfl
theorem drop_text {l:List ByteArray} {j:Int} {x:ByteArray} (h0:0≤j) (h1:j < (l.length:Int)) (hx:x = rdOf ByteArray.empty l j):l.drop j.toNat = x :: l.drop (j.toNat+1):=by
  have hjl:j.toNat < l.length:=by omega
  rw [List.drop_eq_getElem_cons hjl,hx];unfold rdOf
  rw [List.getD_eq_getElem?_getD,List.getElem?_eq_getElem hjl];rfl
def limit_Measure.f (k:Nat) (l0_0:List (S40)) (a0_1:Int):Option (Int × Int × Int × Int × Int):=(graph_Edges.f k l0_0 a0_1).bind fun t249 => ((graph_Depth.f k l0_0 a0_1).bind fun t250 => (if TBb l0_0 = true then some (0,(l0_0.length:Int),t249,t250,(textN l0_0:Int)) else none))
def limit_Measure.T1:Bool × List (List Nat × List Nat):=(true,[([],[]),([0],[0]),([1],[1]),([],[]),([3],[3]),([],[]),([5,4],[5]),([2,4,6],[2,4,6]),([],[]),([8,7,6,0,1,2,3,4,5,6,7,8],[7,8])])
def limit_Measure.B1:List Nat:=[0,1,3,0,8,0,56,127,0,511]
theorem limit_Measure.tab1:rtab .any (opsOf Tryd.f44 1) = limit_Measure.T1:=by kernel_rfl
theorem limit_Measure.bits1:waitsOk limit_Measure.T1.2 limit_Measure.B1 = true:=by kernel_rfl
set_option maxHeartbeats 8000000 in
set_option maxRecDepth 100000 in
theorem limit_Measure.calls (k:Nat) (A0_0:Option Addr) (c0_0:Nat) (l0_0:List (S40)) (a0_1:Int) (r1:Int) (r2:Int) (r3:Int) (r4:Int) (r5:Int) (w:World) (hr0_0:Kd.C k40 w A0_0 l0_0.length l0_0) (hc0_0:l0_0.length≤c0_0) (h:limit_Measure.f k l0_0 a0_1 = some (r1,r2,r3,r4,r5)) :
  Calls Tryd.prog 44 #[.agg #[.slice A0_0 l0_0.length c0_0,.int .i64 a0_1]] w fun e w' => e = .returned (.agg #[.int .i64 r1,.int .i64 r2,.int .i64 r3,.int .i64 r4,.int .i64 r5])∧Below w.heap.size w w':=by
 have hu27:=Tryd.underlying27;have hu23:=Tryd.underlying23;have HR0_0:=AM hr0_0;have HC0_0:=AM hc0_0;clear hr0_0 hc0_0;have HB:=AM (Below.refl w.heap.size w);have H:((graph_Edges.f k l0_0 a0_1).bind fun t249 => ((graph_Depth.f k l0_0 a0_1).bind fun t250 => (if TBb l0_0 = true then some (0,(l0_0.length:Int),t249,t250,(textN l0_0:Int)) else none))) = some (r1,r2,r3,r4,r5):=h;clear h;replace H:=Option.bind_eq_some_iff.mp H;obtain ⟨t249,A20,H⟩:=H;replace H:((graph_Depth.f k l0_0 a0_1).bind fun t250 => (if TBb l0_0 = true then some (0,(l0_0.length:Int),t249,t250,(textN l0_0:Int)) else none)) = some (r1,r2,r3,r4,r5):=H;have A2:=AM A20;clear A20;replace H:=Option.bind_eq_some_iff.mp H;obtain ⟨t250,A30,H⟩:=H;replace H:(if TBb l0_0 = true then some (0,(l0_0.length:Int),t249,t250,(textN l0_0:Int)) else none) = some (r1,r2,r3,r4,r5):=H;have A3:=AM A30;clear A30;split at H
 rotate_left
 ·cases H
 rename_i hTB;have HTB:=AM (tb_of hTB);clear hTB;have hl6:=HTB.out.len;have hmm:=@run_makeMap Tryd.prog;simp only [Option.some.injEq,Prod.mk.injEq] at H;obtain ⟨rfl,rfl,rfl,rfl,rfl⟩:=H;go_enter Tryd.func44,Tryd.ntmps44;try go_wp2_with (first | ((with_reducible refine gate_dst (N:=1) rfl ?_);refine boxE 1 #[.slice A0_0 l0_0.length c0_0,.int .i64 a0_1] 27 ?_;intro gb247 hg w4 hbox hb;have BK247:=AM (hbox);have GW247:=GW HB hg;have GE247:=GW HB hg;replace HB:=BS HB hb;clear hb hbox hg) | ((with_reducible refine gate_dst (N:=2) rfl ?_);refine boxE 2 #[.int .i64 0,.int .i64 0,.int .i64 0,.int .i64 0,.int .i64 0] 23 ?_;intro gb248 hg w5 hbox hb;have BK248:=AM (hbox);have GW248:=GW HB hg;have GE248:=GW HB hg;replace HB:=BS HB hb;have NB247_248:=NL BK247 hg;have NB248_247:=NG BK247 hg;replace BK247:=BE BK247 hb;clear hb hbox hg))
 replace BK247:=AM (blk_drew BK247.out);replace BK248:=AM (blk_drew BK248.out);replace HB:=AM (below_drew1 HB.out);refine start_ (n:=10) (S:=fun w' => w'.cell? ⟨gb247,0,none⟩ = some (.slice A0_0 l0_0.length c0_0)∧w'.cell? ⟨gb247,1,none⟩ = some (.int .i64 a0_1)) (ds:=[]) #[false,false,false,false,false,false,false,false,false,false] (by kernel_rfl) rfl rfl ⟨(blk_cell BK247.out 0).trans rfl,(blk_cell BK247.out 1).trans rfl⟩ (fun hHeld => ?_);refine with_tabW limit_Measure.tab1 limit_Measure.bits1 (fun HT_ HW_ => ?_);generalize w5.drew = w6 at BK247 BK248 HB hHeld ⊢;refine pureA HT_ (i:=0) (N:=some 9) #[true,false,false,false,false,false,false,false,false,false] ?_;refine takeB_ (i:=1) (N:=some 10) (hi:=rfl) (hN:=rfl) (hc:=take_ofW HT_.out HW_.out (by kernel_rfl)) #[true,true,false,false,false,false,false,false,false,false] hHeld (by rintro w' ⟨s0,s1⟩;go_simp;with_reducible rfl) ?_;refine pureA HT_ (i:=2) (N:=some 11) #[true,true,true,false,false,false,false,false,false,false] ?_;refine takeB_ (i:=3) (N:=some 12) (hi:=rfl) (hN:=rfl) (hc:=take_ofW HT_.out HW_.out (by kernel_rfl)) #[true,true,true,true,false,false,false,false,false,false] hHeld (by rintro w' ⟨s0,s1⟩;go_simp;with_reducible rfl) ?_;refine takeB_ (i:=5) (N:=some 14) (hi:=rfl) (hN:=rfl) (hc:=take_ofW HT_.out HW_.out (by kernel_rfl)) #[true,true,true,true,false,true,false,false,false,false] hHeld (by rintro w' ⟨s0,s1⟩;go_simp;with_reducible rfl) ?_;refine join_ (σ:=Nat) 1 #[true,true,true,true,true,true,true,true,true,false] (fun s_ => [(13,.int .i64 t249),(15,.int .i64 t250),(3,.pointer (some ⟨s_,0,none⟩)),(16,.agg #[.int .i64 0,.int .i64 (l0_0.length:Int),.int .i64 t249,.int .i64 t250,.int .i64 0])]) (fun s_ w' => (w'.cell? ⟨gb247,0,none⟩ = some (.slice A0_0 l0_0.length c0_0)∧w'.cell? ⟨gb247,1,none⟩ = some (.int .i64 a0_1))∧(w'.heap[gb247]? = some (.cells #[.slice A0_0 l0_0.length c0_0,.int .i64 a0_1] 27 (0,0)))∧(w'.heap[gb248]? = some (.cells #[.int .i64 0,.int .i64 0,.int .i64 0,.int .i64 0,.int .i64 0] 23 (0,0)))∧(w'.heap[s_]? = some (.cells #[.int .i64 0,.int .i64 0,.int .i64 0,.int .i64 0,.int .i64 0] 23 (0,0)))∧(w.heap.size≤s_)∧(w.heap.size≤s_)∧(gb247≠s_)∧(s_≠gb247)∧(gb248≠s_)∧(s_≠gb248)∧(Below w.heap.size w w')) ?_ ?_
 rotate_left
 ·intro hCont;refine two_ (i:=4) (j:=8) (Ni:=some 13) (Nj:=some 3) #[true,true,true,true,true,true,false,false,false,false] #[true,true,true,true,false,true,false,false,true,false] rfl rfl rfl rfl (two_of HT_.out (by kernel_rfl)) (by decide) (by decide) (fun K hK => ?_) (fun K hK => ?_)
  ·skip
   refine goesN Tryd.func76 #[.agg #[.slice A0_0 l0_0.length c0_0,.int .i64 a0_1]] ?_;with_reducible refine (graph_Edges.calls k _ _ l0_0 a0_1 t249 _ ?side1 ?side2 A2.out).mono ?_
   (case side1 => exact Kd.C_below HR0_0.out (BB HB))
   (case side2 => exact HC0_0.out)
   rintro e w7 ⟨rfl,hb⟩;refine ⟨_,rfl,?_⟩;replace BK247:=BE BK247 hb;replace BK248:=BE BK248 hb;replace HB:=BS HB hb;(try clear hb)
   (try clear hb2)
   (try clear hk)
   (try clear hi)
   refine hK.out _ _ ⟨(blk_cell BK247.out 0).trans rfl,(blk_cell BK247.out 1).trans rfl⟩ (fun hHeld => ?_);clear hK K;refine norm_ (a':=?_) ?_ ?_
   rotate_left
   ·show Act.put _ (some 13) _ = _
    simp only [Act.put,List.setIfInBounds_toArray,List.set_cons_zero,List.set_cons_succ,i64_w,i32_w];rfl
   refine two_ (i:=6) (j:=8) (Ni:=some 15) (Nj:=some 3) #[true,true,true,true,true,true,true,false,false,false] #[true,true,true,true,true,true,false,false,true,false] rfl rfl rfl rfl (two_of HT_.out (by kernel_rfl)) (by decide) (by decide) (fun K hK => ?_) (fun K hK => ?_)
   ·skip
    refine goesN Tryd.func34 #[.agg #[.slice A0_0 l0_0.length c0_0,.int .i64 a0_1]] ?_;with_reducible refine (graph_Depth.calls k _ _ l0_0 a0_1 t250 _ ?side1 ?side2 A3.out).mono ?_
    (case side1 => exact Kd.C_below HR0_0.out (BB HB))
    (case side2 => exact HC0_0.out)
    rintro e w8 ⟨rfl,hb⟩;refine ⟨_,rfl,?_⟩;replace BK247:=BE BK247 hb;replace BK248:=BE BK248 hb;replace HB:=BS HB hb;(try clear hb)
    (try clear hb2)
    (try clear hk)
    (try clear hi)
    refine hK.out _ _ ⟨(blk_cell BK247.out 0).trans rfl,(blk_cell BK247.out 1).trans rfl⟩ (fun hHeld => ?_);clear hK K;refine norm_ (a':=?_) ?_ ?_
    rotate_left
    ·show Act.put _ (some 15) _ = _
     simp only [Act.put,List.setIfInBounds_toArray,List.set_cons_zero,List.set_cons_succ,i64_w,i32_w];rfl
    refine pureA HT_ (i:=7) (N:=some 16) #[true,true,true,true,true,true,true,true,false,false] ?_;refine one_ (i:=8) (N:=some 3) #[true,true,true,true,true,true,true,true,true,false] rfl rfl (one_of HT_.out (by kernel_rfl)) (by decide) (fun K hK => ?_);refine boxS 3 #[.int .i64 0,.int .i64 0,.int .i64 0,.int .i64 0,.int .i64 0] 23 ?_;intro gb251 hg w9 hbox hb;have BK251:=AM (hbox);have GW251:=GW HB hg;have GE251:=GW HB hg;replace HB:=BS HB hb;have NB247_251:=NL BK247 hg;have NB251_247:=NG BK247 hg;replace BK247:=BE BK247 hb;have NB248_251:=NL BK248 hg;have NB251_248:=NG BK248 hg;replace BK248:=BE BK248 hb;clear hb hbox hg;refine hK.out _ _ ⟨(blk_cell BK247.out 0).trans rfl,(blk_cell BK247.out 1).trans rfl⟩ (fun hHeld => ?_);clear hK K;refine norm_ (a':=?_) ?_ ?_
    rotate_left
    ·show Act.put _ (some 3) _ = _
     simp only [Act.put,List.setIfInBounds_toArray,List.set_cons_zero,List.set_cons_succ,i64_w,i32_w];rfl
    exact norm_ (by simp only [putAll,Act.put,List.setIfInBounds_toArray,List.set_cons_zero,List.set_cons_succ]) (hCont (gb251) _ ⟨hHeld,(BL BK247),(BL BK248),(BL BK251),GW251.out,GE251.out,NB247_251.out,NB251_247.out,NB248_251.out,NB251_248.out,(BB HB)⟩)
   ·skip
    refine boxS 3 #[.int .i64 0,.int .i64 0,.int .i64 0,.int .i64 0,.int .i64 0] 23 ?_;intro gb251 hg w8 hbox hb;have BK251:=AM (hbox);have GW251:=GW HB hg;have GE251:=GW HB hg;replace HB:=BS HB hb;have NB247_251:=NL BK247 hg;have NB251_247:=NG BK247 hg;replace BK247:=BE BK247 hb;have NB248_251:=NL BK248 hg;have NB251_248:=NG BK248 hg;replace BK248:=BE BK248 hb;clear hb hbox hg;refine hK.out _ _ ⟨(blk_cell BK247.out 0).trans rfl,(blk_cell BK247.out 1).trans rfl⟩ (fun hHeld => ?_);clear hK K;refine norm_ (a':=?_) ?_ ?_
    rotate_left
    ·show Act.put _ (some 3) _ = _
     simp only [Act.put,List.setIfInBounds_toArray,List.set_cons_zero,List.set_cons_succ,i64_w,i32_w];rfl
    refine one_ (i:=6) (N:=some 15) #[true,true,true,true,true,true,true,false,true,false] rfl rfl (one_of HT_.out (by kernel_rfl)) (by decide) (fun K hK => ?_);refine goesN Tryd.func34 #[.agg #[.slice A0_0 l0_0.length c0_0,.int .i64 a0_1]] ?_;with_reducible refine (graph_Depth.calls k _ _ l0_0 a0_1 t250 _ ?side1 ?side2 A3.out).mono ?_
    (case side1 => exact Kd.C_below HR0_0.out (BB HB))
    (case side2 => exact HC0_0.out)
    rintro e w9 ⟨rfl,hb⟩;refine ⟨_,rfl,?_⟩;replace BK247:=BE BK247 hb;replace BK248:=BE BK248 hb;replace BK251:=BE BK251 hb;replace HB:=BS HB hb;(try clear hb)
    (try clear hb2)
    (try clear hk)
    (try clear hi)
    refine hK.out _ _ ⟨(blk_cell BK247.out 0).trans rfl,(blk_cell BK247.out 1).trans rfl⟩ (fun hHeld => ?_);clear hK K;refine norm_ (a':=?_) ?_ ?_
    rotate_left
    ·show Act.put _ (some 15) _ = _
     simp only [Act.put,List.setIfInBounds_toArray,List.set_cons_zero,List.set_cons_succ,i64_w,i32_w];rfl
    refine pureA HT_ (i:=7) (N:=some 16) #[true,true,true,true,true,true,true,true,true,false] ?_;exact norm_ (by simp only [putAll,Act.put,List.setIfInBounds_toArray,List.set_cons_zero,List.set_cons_succ]) (hCont (gb251) _ ⟨hHeld,(BL BK247),(BL BK248),(BL BK251),GW251.out,GE251.out,NB247_251.out,NB251_247.out,NB248_251.out,NB251_248.out,(BB HB)⟩)
  ·skip
   refine boxS 3 #[.int .i64 0,.int .i64 0,.int .i64 0,.int .i64 0,.int .i64 0] 23 ?_;intro gb251 hg w7 hbox hb;have BK251:=AM (hbox);have GW251:=GW HB hg;have GE251:=GW HB hg;replace HB:=BS HB hb;have NB247_251:=NL BK247 hg;have NB251_247:=NG BK247 hg;replace BK247:=BE BK247 hb;have NB248_251:=NL BK248 hg;have NB251_248:=NG BK248 hg;replace BK248:=BE BK248 hb;clear hb hbox hg;refine hK.out _ _ ⟨(blk_cell BK247.out 0).trans rfl,(blk_cell BK247.out 1).trans rfl⟩ (fun hHeld => ?_);clear hK K;refine norm_ (a':=?_) ?_ ?_
   rotate_left
   ·show Act.put _ (some 3) _ = _
    simp only [Act.put,List.setIfInBounds_toArray,List.set_cons_zero,List.set_cons_succ,i64_w,i32_w];rfl
   refine one_ (i:=4) (N:=some 13) #[true,true,true,true,true,true,false,false,true,false] rfl rfl (one_of HT_.out (by kernel_rfl)) (by decide) (fun K hK => ?_);refine goesN Tryd.func76 #[.agg #[.slice A0_0 l0_0.length c0_0,.int .i64 a0_1]] ?_;with_reducible refine (graph_Edges.calls k _ _ l0_0 a0_1 t249 _ ?side1 ?side2 A2.out).mono ?_
   (case side1 => exact Kd.C_below HR0_0.out (BB HB))
   (case side2 => exact HC0_0.out)
   rintro e w8 ⟨rfl,hb⟩;refine ⟨_,rfl,?_⟩;replace BK247:=BE BK247 hb;replace BK248:=BE BK248 hb;replace BK251:=BE BK251 hb;replace HB:=BS HB hb;(try clear hb)
   (try clear hb2)
   (try clear hk)
   (try clear hi)
   refine hK.out _ _ ⟨(blk_cell BK247.out 0).trans rfl,(blk_cell BK247.out 1).trans rfl⟩ (fun hHeld => ?_);clear hK K;refine norm_ (a':=?_) ?_ ?_
   rotate_left
   ·show Act.put _ (some 13) _ = _
    simp only [Act.put,List.setIfInBounds_toArray,List.set_cons_zero,List.set_cons_succ,i64_w,i32_w];rfl
   refine one_ (i:=6) (N:=some 15) #[true,true,true,true,true,true,true,false,true,false] rfl rfl (one_of HT_.out (by kernel_rfl)) (by decide) (fun K hK => ?_);refine goesN Tryd.func34 #[.agg #[.slice A0_0 l0_0.length c0_0,.int .i64 a0_1]] ?_;with_reducible refine (graph_Depth.calls k _ _ l0_0 a0_1 t250 _ ?side1 ?side2 A3.out).mono ?_
   (case side1 => exact Kd.C_below HR0_0.out (BB HB))
   (case side2 => exact HC0_0.out)
   rintro e w9 ⟨rfl,hb⟩;refine ⟨_,rfl,?_⟩;replace BK247:=BE BK247 hb;replace BK248:=BE BK248 hb;replace BK251:=BE BK251 hb;replace HB:=BS HB hb;(try clear hb)
   (try clear hb2)
   (try clear hk)
   (try clear hi)
   refine hK.out _ _ ⟨(blk_cell BK247.out 0).trans rfl,(blk_cell BK247.out 1).trans rfl⟩ (fun hHeld => ?_);clear hK K;refine norm_ (a':=?_) ?_ ?_
   rotate_left
   ·show Act.put _ (some 15) _ = _
    simp only [Act.put,List.setIfInBounds_toArray,List.set_cons_zero,List.set_cons_succ,i64_w,i32_w];rfl
   refine pureA HT_ (i:=7) (N:=some 16) #[true,true,true,true,true,true,true,true,true,false] ?_;exact norm_ (by simp only [putAll,Act.put,List.setIfInBounds_toArray,List.set_cons_zero,List.set_cons_succ]) (hCont (gb251) _ ⟨hHeld,(BL BK247),(BL BK248),(BL BK251),GW251.out,GE251.out,NB247_251.out,NB251_247.out,NB248_251.out,NB251_248.out,(BB HB)⟩)
 rintro gb251 w10 ⟨hS_,h0_,h1_,h2_,h3_,h4_,h5_,h6_,h7_,h8_,h9_⟩;have n0_:Aside0 (w10.heap[gb247]? = some (.cells #[.slice A0_0 l0_0.length c0_0,.int .i64 a0_1] 27 (0,0))):=⟨h0_⟩;have n1_:Aside0 (w10.heap[gb248]? = some (.cells #[.int .i64 0,.int .i64 0,.int .i64 0,.int .i64 0,.int .i64 0] 23 (0,0))):=⟨h1_⟩;have n2_:Aside0 (w10.heap[gb251]? = some (.cells #[.int .i64 0,.int .i64 0,.int .i64 0,.int .i64 0,.int .i64 0] 23 (0,0))):=⟨h2_⟩;have n3_:Aside0 (w.heap.size≤gb251):=⟨h3_⟩;have n4_:Aside0 (w.heap.size≤gb251):=⟨h4_⟩;have n5_:Aside0 (gb247≠gb251):=⟨h5_⟩;have n6_:Aside0 (gb251≠gb247):=⟨h6_⟩;have n7_:Aside0 (gb248≠gb251):=⟨h7_⟩;have n8_:Aside0 (gb251≠gb248):=⟨h8_⟩;have n9_:Aside0 (Below w.heap.size w w10):=⟨h9_⟩;clear BK247;clear BK248;clear HB;clear h0_ h1_ h2_ h3_ h4_ h5_ h6_ h7_ h8_ h9_;have BK247:=n0_;have BK248:=n1_;have BK251:=n2_;have GW251:=n3_;have GE251:=n4_;have NB247_251:=n5_;have NB251_247:=n6_;have NB248_251:=n7_;have NB251_248:=n8_;have HB:=n9_;clear n0_ n1_ n2_ n3_ n4_ n5_ n6_ n7_ n8_ n9_;have hHeld:w10.cell? ⟨gb247,0,none⟩ = some (.slice A0_0 l0_0.length c0_0)∧w10.cell? ⟨gb247,1,none⟩ = some (.int .i64 a0_1):=hS_;refine norm_ (a':=?_) ?_ ?_
 rotate_left
 ·simp only [putAll,Act.put,List.setIfInBounds_toArray,List.set_cons_zero,List.set_cons_succ];rfl
 refine one_ (i:=9) (N:=none) #[true,true,true,true,true,true,true,true,true,true] rfl rfl (one_of HT_.out (by kernel_rfl)) (by decide) (fun K hK => ?_);have hs11:w10.cell? ⟨gb251,0,none⟩ = some (.int .i64 0):=(blk_cell BK251.out 0).trans rfl;have hfs11:=BF BK251 0;have hns11_0:=NB247_251.out;have hns11_1:=NB248_251.out;have hms11_0:=NB251_247.out;have hms11_1:=NB251_248.out;have hs12:w10.cell? ⟨gb251,1,none⟩ = some (.int .i64 0):=(blk_cell BK251.out 1).trans rfl;have hfs12:=BF BK251 1;have hns12_0:=NB247_251.out;have hns12_1:=NB248_251.out;have hms12_0:=NB251_247.out;have hms12_1:=NB251_248.out;have hs13:w10.cell? ⟨gb251,2,none⟩ = some (.int .i64 0):=(blk_cell BK251.out 2).trans rfl;have hfs13:=BF BK251 2;have hns13_0:=NB247_251.out;have hns13_1:=NB248_251.out;have hms13_0:=NB251_247.out;have hms13_1:=NB251_248.out;have hs14:w10.cell? ⟨gb251,3,none⟩ = some (.int .i64 0):=(blk_cell BK251.out 3).trans rfl;have hfs14:=BF BK251 3;have hns14_0:=NB247_251.out;have hns14_1:=NB248_251.out;have hms14_0:=NB251_247.out;have hms14_1:=NB251_248.out;have hs15:w10.cell? ⟨gb251,4,none⟩ = some (.int .i64 0):=(blk_cell BK251.out 4).trans rfl;have hfs15:=BF BK251 4;have hns15_0:=NB247_251.out;have hns15_1:=NB248_251.out;have hms15_0:=NB251_247.out;have hms15_1:=NB251_248.out;refine skip_ (w1:=?_) (by rfl) rfl ?_ ?_
 rotate_left
 ·go_simp
  rfl
 refine hK.out _ _ ⟨((cell_far (p:=⟨gb251,_,none⟩) NB247_251.out _).trans (((cell_far (p:=⟨gb251,_,none⟩) NB247_251.out _).trans (((cell_far (p:=⟨gb251,_,none⟩) NB247_251.out _).trans (((cell_far (p:=⟨gb251,_,none⟩) NB247_251.out _).trans (((cell_far (p:=⟨gb251,_,none⟩) NB247_251.out _).trans (hHeld.1)))))))))),((cell_far (p:=⟨gb251,_,none⟩) NB247_251.out _).trans (((cell_far (p:=⟨gb251,_,none⟩) NB247_251.out _).trans (((cell_far (p:=⟨gb251,_,none⟩) NB247_251.out _).trans (((cell_far (p:=⟨gb251,_,none⟩) NB247_251.out _).trans (((cell_far (p:=⟨gb251,_,none⟩) NB247_251.out _).trans (hHeld.2))))))))))⟩ (fun hHeld => ?_);clear hK K;refine done_ (done_of HT_.out (by kernel_rfl)) ?_;have hN0:=blk_put BK251.out 0 (.int .i64 0) rfl;have hN1:=blk_put hN0 1 (.int .i64 (l0_0.length:Int)) rfl;have hN2:=blk_put hN1 2 (.int .i64 t249) rfl;have hN3:=blk_put hN2 3 (.int .i64 t250) rfl;have hN4:=blk_put hN3 4 (.int .i64 0) rfl;have hZ5:=blk_far (p:=⟨gb251,4,none⟩) (blk_far (p:=⟨gb251,3,none⟩) (blk_far (p:=⟨gb251,2,none⟩) (blk_far (p:=⟨gb251,1,none⟩) (blk_far (p:=⟨gb251,0,none⟩) (BK248.out) NB248_251.out (.int .i64 0)) NB248_251.out (.int .i64 (l0_0.length:Int))) NB248_251.out (.int .i64 t249)) NB248_251.out (.int .i64 t250)) NB248_251.out (.int .i64 0);have hX5:=blk_far (p:=⟨gb251,4,none⟩) (blk_far (p:=⟨gb251,3,none⟩) (blk_far (p:=⟨gb251,2,none⟩) (blk_far (p:=⟨gb251,1,none⟩) (blk_far (p:=⟨gb251,0,none⟩) (BK247.out) NB247_251.out (.int .i64 0)) NB247_251.out (.int .i64 (l0_0.length:Int))) NB247_251.out (.int .i64 t249)) NB247_251.out (.int .i64 t250)) NB247_251.out (.int .i64 0);have hB5:Below w.heap.size w (((((w10.setCell ⟨gb251,0,none⟩ (.int .i64 0)).setCell ⟨gb251,1,none⟩ (.int .i64 (l0_0.length:Int))).setCell ⟨gb251,2,none⟩ (.int .i64 t249)).setCell ⟨gb251,3,none⟩ (.int .i64 t250)).setCell ⟨gb251,4,none⟩ (.int .i64 0)):=((((HB.out.setCell (p:=⟨gb251,0,none⟩) GW251.out _).setCell (p:=⟨gb251,1,none⟩) GW251.out _).setCell (p:=⟨gb251,2,none⟩) GW251.out _).setCell (p:=⟨gb251,3,none⟩) GW251.out _).setCell (p:=⟨gb251,4,none⟩) GW251.out _;clear hHeld HT_ HW_ hS_ BK251 BK248 BK247 HB;clear hN0 hN1 hN2 hN3;generalize (((((w10.setCell ⟨gb251,0,none⟩ (.int .i64 0)).setCell ⟨gb251,1,none⟩ (.int .i64 (l0_0.length:Int))).setCell ⟨gb251,2,none⟩ (.int .i64 t249)).setCell ⟨gb251,3,none⟩ (.int .i64 t250)).setCell ⟨gb251,4,none⟩ (.int .i64 0)) = w11 at hN4 hZ5 hX5 hB5 ⊢;have HY:=Lib.hid hN4;have HZ:=Lib.hid hZ5;have HB:=Lib.hid hB5;have q0:w11.cell? ⟨gb247,0,none⟩ = some (.slice A0_0 l0_0.length c0_0):=(blk_cell hX5 0).trans rfl;have q0m:(w11.alloc (.map #[] 0)).cell? ⟨gb247,0,none⟩ = some (.slice A0_0 l0_0.length c0_0):=Lib.cell?_alloc_some _ q0;have GYw:=Lib.hid GW251.out;have GZw:=Lib.hid GW248.out;have NYZ:=Lib.hid NB251_248.out;clear hN4 hZ5 hX5 hB5;go_wp2_with (fail)
 clear q0 q0m;go_loopg [21] l0_0.length (fun kq v21 wr => ∃ (i:Int) (m:List ByteArray) (s:Nat),v21 = .int .i64 i∧0≤i∧i+kq = l0_0.length∧Aside0 (MI l0_0 (textsOf (l0_0.drop i.toNat)) m s)∧Aside0 (MapS.IsSet wr w11.heap.size m.length m)∧Aside0 (wr.heap[gb251]? = some (.cells #[.int .i64 0,.int .i64 (l0_0.length:Int),.int .i64 t249,.int .i64 t250,.int .i64 (s:Int)] 23 (0,0)))∧Aside0 (wr.heap[gb248]? = some (.cells #[.int .i64 0,.int .i64 0,.int .i64 0,.int .i64 0,.int .i64 0] 23 (0,0)))∧Aside0 (Below w.heap.size w wr))
 case atStart => exact ⟨0,[],0,rfl,by omega,by omega,⟨MI.start HTB.out⟩,⟨MapS.set_made w11⟩,⟨blk_alloc HY.out _⟩,⟨blk_alloc HZ.out _⟩,⟨HB.out.alloc HB.out.size _⟩⟩
 case round =>
  obtain ⟨i,m,s,rfl,hi0,hik,hMI,hset,hY,hZ,hB⟩:=hrel;obtain ⟨wo,hwo⟩:∃ z,z = wr:=⟨_,rfl⟩;subst hwo;by_cases hlt:i < (l0_0.length:Int)
  ·have t4:decide (i < (l0_0.length:Int)) = true:=decide_eq_true hlt;obtain ⟨ko,rfl⟩:∃ g,gk = g+1:=⟨gk - 1,by omega⟩;obtain ⟨ad,B1,d1,B2,d2,B3,d3,e,hx0,hx1,hx2,hx3,hl1,hi1,hl2,hi2,hl3,hi3⟩:=at_T40 HR0_0.out i hi0 hlt;cases e
   replace hx0:=cell_tr hB.out hx0;replace hx1:=cell_tr hB.out hx1;replace hx2:=cell_tr hB.out hx2;replace hx3:=cell_tr hB.out hx3;obtain ⟨y,hy⟩:∃ y,y = rd_T40 l0_0 i:=⟨_,rfl⟩;rw [← hy] at hx0 hx1 hx2 hx3 hl1 hi1 hl2 hi2 hl3 hi3;have hdr:textsOf (l0_0.drop i.toNat) = y.f2 ++ textsOf (l0_0.drop (i.toNat+1)):=texts_step hi0 hlt hy;have hMI2:MI l0_0 (y.f2 ++ textsOf (l0_0.drop (i.toNat+1))) m s:=by rw [← hdr];exact hMI.out
   have hy2:y.f2.length≤1000000:=by have:=hMI2.cnt;simp only [List.length_append] at this;omega
   have HM2:=Lib.hid hMI2;have HI2:=Lib.hid hi2;clear hMI hMI2 hdr hy hi1 hi2 hi3 hl1 hl2 hl3;go_upto_region 6 with (fail)
   have hn7:=heap_alloc_new wo (.cells #[.int .i64 y.f0,.slice B1 y.f1.length d1,.slice B2 y.f2.length d2,.slice B3 y.f3.length d3] 40);have hb7:Below wo.heap.size wo (wo.alloc (.cells #[.int .i64 y.f0,.slice B1 y.f1.length d1,.slice B2 y.f2.length d2,.slice B3 y.f3.length d3] 40)):=(Below.refl _ _).alloc (Nat.le_refl _) _;clear hx0 hx1 hx2 hx3;generalize wo.alloc (.cells #[.int .i64 y.f0,.slice B1 y.f1.length d1,.slice B2 y.f2.length d2,.slice B3 y.f3.length d3] 40) = w7 at hn7 hb7 ⊢;have q2:w7.cell? ⟨wo.heap.size,2,none⟩ = some (.slice B2 y.f2.length d2):=(blk_cell hn7 2).trans rfl;have HS7:=Lib.hid (hset.out.of_block (hb7.block w11.heap.size hset.out.lt));have HY7:=Lib.hid ((hb7.block gb251 (blk_lt hY.out)).trans hY.out);have HZ7:=Lib.hid ((hb7.block gb248 (blk_lt hZ.out)).trans hZ.out);have HB7:=Lib.hid (below_step hB.out hb7);clear hn7 hb7;go_wp2_with (fail)
   clear q2;go_loopg [28] y.f2.length (fun kq v28 wq => ∃ (j:Int) (m:List ByteArray) (s:Nat),v28 = .int .i64 j∧0≤j∧j+kq = y.f2.length∧Aside0 (MI l0_0 (y.f2.drop j.toNat ++ textsOf (l0_0.drop (i.toNat+1))) m s)∧Aside0 (MapS.IsSet wq w11.heap.size m.length m)∧Aside0 (wq.heap[gb251]? = some (.cells #[.int .i64 0,.int .i64 (l0_0.length:Int),.int .i64 t249,.int .i64 t250,.int .i64 (s:Int)] 23 (0,0)))∧Aside0 (wq.heap[gb248]? = some (.cells #[.int .i64 0,.int .i64 0,.int .i64 0,.int .i64 0,.int .i64 0] 23 (0,0)))∧Aside0 (Below w.heap.size w wq) )
   case atStart => exact ⟨0,m,s,rfl,by omega,by omega,⟨by simpa using HM2.out⟩,⟨HS7.out⟩,⟨HY7.out⟩,⟨HZ7.out⟩,⟨HB7.out⟩⟩
   case round =>
    obtain ⟨j,m2,s2,rfl,hj0,hjk,hMI,hset2,hY2,hZ2,hB2⟩:=hrel;obtain ⟨wp,hwp⟩:∃ z,z = wr:=⟨_,rfl⟩;subst hwp;by_cases hjl:j < (y.f2.length:Int)
    ·have t5:decide (j < (y.f2.length:Int)) = true:=decide_eq_true hjl;obtain ⟨kq,rfl⟩:∃ g,gk = g+1:=⟨gk - 1,by omega⟩;obtain ⟨ad2,e2,hx⟩:=Kd.at_string (Kd.C_below HI2.out hB2.out) j hj0 hjl;cases e2
     obtain ⟨x,hxd⟩:∃ x,x = rdOf ByteArray.empty y.f2 j:=⟨_,rfl⟩;rw [← hxd] at hx;have hMI3:MI l0_0 (x :: (y.f2.drop (j.toNat+1) ++ textsOf (l0_0.drop (i.toNat+1)))) m2 s2:=by
      have:=hMI.out;rwa [show y.f2.drop j.toNat = x :: y.f2.drop (j.toNat+1) from drop_text hj0 hjl hxd,List.cons_append] at this
     have hxs:s2+x.size≤1000000000000:=by have:=hMI3.sum;simp only [List.map_cons,List.sum_cons] at this;omega
     have hml:m2.length < 1000000:=by have:=hMI3.cnt;simp only [List.length_cons] at this;omega
     have hxm:x.size≤maxLen:=by unfold maxLen;omega
     have hmx:m2.length < maxLen:=by unfold maxLen;omega
     have HM3:=Lib.hid hMI3;have HSet:=Lib.hid hset2.out;clear hMI hMI3 hxd hset2;have hyb:=blk_lt hY2.out;have hzb:=blk_lt hZ2.out;by_cases hm:x ∈ m2
     ·have hd:decide (x ∈ m2) = true:=decide_eq_true hm;have HMo:=Lib.hid (HM3.out.old hm);clear hm;go_wp2_with (at_lookup;refine MapS.wpList_look _ rfl _ _ rfl w11.heap.size m2.length m2 HSet.out x hxm rfl rfl ?_;rw [hd])
      go_roundg kq
      case measure => omega
      case rel => exact ⟨j+1,m2,s2,rfl,by omega,by omega,⟨by rw [show (j+1).toNat = j.toNat+1 by omega];exact HMo.out⟩,⟨HSet.out⟩,⟨hY2.out⟩,⟨hZ2.out⟩,⟨hB2.out⟩⟩
     ·have hd:decide (x ∈ m2) = false:=decide_eq_false hm;have HMn:=Lib.hid (HM3.out.new hm);have HNY:=Lib.hid (show some gb251≠some w11.heap.size from fun e => by injection e with e;have:=blk_lt HY.out;omega);have HNZ:=Lib.hid (show some gb248≠some w11.heap.size from fun e => by injection e with e;have:=blk_lt HZ.out;omega);have HW11:=Lib.hid HB.out.size;clear hm;go_wp2_with (first
       | (at_lookup;refine MapS.wpList_look _ rfl _ _ rfl w11.heap.size m2.length m2 HSet.out x hxm rfl rfl ?_;rw [hd])
       | (at_mapUpdate;refine MapS.wpList_store _ rfl _ _ _ rfl w11.heap.size m2.length m2 HSet.out x hxm hmx rfl rfl rfl ?_;intro w8 hset8 hg8;have HS8:=Lib.hid hset8;have HG8:=Lib.hid hg8;have HY8:=Lib.hid ((hg8.block gb251 hyb HNY.out).trans hY2.out);have HZ8:=Lib.hid ((hg8.block gb248 hzb HNZ.out).trans hZ2.out);have c84:w8.cell? ⟨gb251,4,none⟩ = some (.int .i64 (s2:Int)):=(blk_cell HY8.out 4).trans rfl;have f84:=blk_frozen HY8.out 4;clear hset8 hg8))
      go_roundg kq
      case measure => omega
      case rel =>
       have hy9:=blk_put HY8.out 4 (.int .i64 ((s2:Int)+(x.size:Int))) rfl;have hz9:=blk_far (p:=⟨gb251,4,none⟩) HZ8.out (Ne.symm NYZ.out) (.int .i64 ((s2:Int)+(x.size:Int)));have hs9:MapS.IsSet (w8.setCell ⟨gb251,4,none⟩ (.int .i64 ((s2:Int)+(x.size:Int)))) w11.heap.size (m2.length+1) (x :: m2):=HS8.out.of_block (Below.heap_setCell _ _ _ _ (fun e => HNY.out (by rw [show w11.heap.size = gb251 from e])));have hb8:Below w.heap.size w w8:=Kw.grown_below hB2.out HG8.out (fun g h => by cases h;exact HW11.out);exact ⟨j+1,x :: m2,s2+x.size,rfl,by omega,by omega,⟨by rw [show (j+1).toNat = j.toNat+1 by omega];exact HMn.out⟩,⟨hs9⟩,⟨by rw [show ((s2+x.size:Nat):Int) = (s2:Int)+(x.size:Int) by omega];exact hy9⟩,⟨hz9⟩,⟨hb8.setCell (p:=⟨gb251,4,none⟩) GYw.out _⟩⟩
    ·have t5:decide (j < (y.f2.length:Int)) = false:=decide_eq_false hjl;have hend:y.f2.drop j.toNat = []:=List.drop_of_length_le (by omega);have HM3:=Lib.hid (show MI l0_0 (textsOf (l0_0.drop (i.toNat+1))) m2 s2 by have:=hMI.out;rwa [hend,List.nil_append] at this);clear hend hMI;go_wp2_with (fail)
     go_roundg ko
     case measure => omega
     case rel => exact ⟨i+1,m2,s2,rfl,by omega,by omega,⟨by rw [show (i+1).toNat = i.toNat+1 by omega];exact HM3.out⟩,⟨hset2.out⟩,⟨hY2.out⟩,⟨hZ2.out⟩,⟨hB2.out⟩⟩
  ·have t4:decide (i < (l0_0.length:Int)) = false:=decide_eq_false hlt;have hend:textsOf (l0_0.drop i.toNat) = []:=by rw [List.drop_of_length_le (by omega)];rfl
   have hs:s = textN l0_0:=by have:=hMI.out.fin;rw [hend] at this;exact this
   subst hs;have c0:wo.cell? ⟨gb251,0,none⟩ = some (.int .i64 0):=(blk_cell hY.out 0).trans rfl;have c1:wo.cell? ⟨gb251,1,none⟩ = some (.int .i64 (l0_0.length:Int)):=(blk_cell hY.out 1).trans rfl;have c2:wo.cell? ⟨gb251,2,none⟩ = some (.int .i64 t249):=(blk_cell hY.out 2).trans rfl;have c3:wo.cell? ⟨gb251,3,none⟩ = some (.int .i64 t250):=(blk_cell hY.out 3).trans rfl;have c4:wo.cell? ⟨gb251,4,none⟩ = some (.int .i64 (textN l0_0:Int)):=(blk_cell hY.out 4).trans rfl;have z0:wo.cell? ⟨gb248,0,none⟩ = some (.int .i64 0):=(blk_cell hZ.out 0).trans rfl;have z1:wo.cell? ⟨gb248,1,none⟩ = some (.int .i64 0):=(blk_cell hZ.out 1).trans rfl;have z2:wo.cell? ⟨gb248,2,none⟩ = some (.int .i64 0):=(blk_cell hZ.out 2).trans rfl;have z3:wo.cell? ⟨gb248,3,none⟩ = some (.int .i64 0):=(blk_cell hZ.out 3).trans rfl;have z4:wo.cell? ⟨gb248,4,none⟩ = some (.int .i64 0):=(blk_cell hZ.out 4).trans rfl;have f0:=blk_frozen hZ.out 0;have f1:=blk_frozen hZ.out 1;have f2:=blk_frozen hZ.out 2;have f3:=blk_frozen hZ.out 3;have f4:=blk_frozen hZ.out 4;go_wp2_with (fail)
   refine bodyPost_ret (results_cell_row rfl _ _ gb248 23 #[.int .i64 0,.int .i64 (l0_0.length:Int),.int .i64 t249,.int .i64 t250,.int .i64 (textN l0_0:Int)] (0,0) _ rfl (blk_put (blk_put (blk_put (blk_put (blk_put hZ.out 0 (.int .i64 0) rfl) 1 (.int .i64 (l0_0.length:Int)) rfl) 2 (.int .i64 t249) rfl) 3 (.int .i64 t250) rfl) 4 (.int .i64 (textN l0_0:Int)) rfl) Tryd.underlying23 rfl (by kernel_rfl)) rfl ?_;exact ⟨rfl,((((hB.out.setCell (p:=⟨gb248,0,none⟩) GZw.out _).setCell (p:=⟨gb248,1,none⟩) GZw.out _).setCell (p:=⟨gb248,2,none⟩) GZw.out _).setCell (p:=⟨gb248,3,none⟩) GZw.out _).setCell (p:=⟨gb248,4,none⟩) GZw.out _⟩
end
end Go.Proofs.YtoigkneoaemcfaaDoor.GN
