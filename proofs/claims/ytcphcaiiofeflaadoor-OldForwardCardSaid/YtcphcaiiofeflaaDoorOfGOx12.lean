
import Derived.Test.YtcphcaiiofeflaaDoorOfGOx0
import Derived.Test.YtcphcaiiofeflaaDoorOfGOx11
namespace Go.Proofs.YtcphcaiiofeflaaDoor.GO
open Go.RowKit Go.Proofs.YtcphcaiiofeflaaDoorW.PrintWords Go.Proofs.YtcphcaiiofeflaaDoorW.PrintLast Go.Proofs.YtcphcaiiofeflaaDoorW.PrintMore
attribute [local go_sem] max2_int min2_int max_two min_two max_three min_three max_four min_four
set_option linter.unusedVariables false
set_option linter.unusedSimpArgs false
section
open Go.Lib
theorem cell_tr {W0 W:World} (hB:Below W0.heap.size W0 W) {a:Addr} {v:Value} (h:W0.cell? a = some v):W.cell? a = some v:=(hB.cell (World.block_lt_of_cell? W0 _ h)).trans h
def tStep (p:List ByteArray × Nat) (t:ByteArray):List ByteArray × Nat:=if t ∈ p.1 then p else (t :: p.1,p.2+t.size)
def textsOf (l0:List S53):List ByteArray:=l0.flatMap (·.f2)
def textN (l0:List S53):Nat:=((textsOf l0).foldl tStep ([],0)).2
theorem tStep_old {m:List ByteArray} {s:Nat} {t:ByteArray} (h:t ∈ m):tStep (m,s) t = (m,s):=if_pos h
theorem tStep_new {m:List ByteArray} {s:Nat} {t:ByteArray} (h:¬ t ∈ m):tStep (m,s) t = (t :: m,s+t.size):=if_neg h
structure TB (l0:List S53):Prop where
  len:l0.length≤1000000
  cnt:(textsOf l0).length≤1000000
  sum:((textsOf l0).map ByteArray.size).sum≤1000000000000
def TBb (l0:List S53):Bool:=decide (l0.length≤1000000) && (decide ((textsOf l0).length≤1000000) && decide (((textsOf l0).map ByteArray.size).sum≤1000000000000))
theorem tb_of {l0:List S53} (h:TBb l0 = true):TB l0:=by
  unfold TBb at h
  simp only [Bool.and_eq_true,decide_eq_true_eq] at h;exact ⟨h.1,h.2.1,h.2.2⟩
structure MI (l0:List S53) (rest:List ByteArray) (m:List ByteArray) (s:Nat):Prop where
  fin:(rest.foldl tStep (m,s)).2 = textN l0
  cnt:m.length+rest.length≤1000000
  sum:s+(rest.map ByteArray.size).sum≤1000000000000
theorem MI.start {l0:List S53} (h:TB l0):MI l0 (textsOf (l0.drop (0:Int).toNat)) [] 0:=⟨rfl,by simpa using h.cnt,by simpa using h.sum⟩
theorem MI.old {l0:List S53} {t:ByteArray} {rest m:List ByteArray} {s:Nat} (h:MI l0 (t :: rest) m s) (ht:t ∈ m):MI l0 rest m s:=by
  have h1:=h.fin;have h2:=h.cnt;have h3:=h.sum;rw [List.foldl_cons,tStep_old ht] at h1;simp only [List.length_cons] at h2;simp only [List.map_cons,List.sum_cons] at h3;exact ⟨h1,by omega,by omega⟩
theorem MI.new {l0:List S53} {t:ByteArray} {rest m:List ByteArray} {s:Nat} (h:MI l0 (t :: rest) m s) (ht:¬ t ∈ m):MI l0 rest (t :: m) (s+t.size):=by
  have h1:=h.fin;have h2:=h.cnt;have h3:=h.sum;rw [List.foldl_cons,tStep_new ht] at h1;simp only [List.length_cons] at h2;simp only [List.map_cons,List.sum_cons] at h3;exact ⟨h1,by simp only [List.length_cons];omega,by omega⟩
theorem texts_step {l0:List S53} {i:Int} {y:S53} (h0:0≤i) (h1:i < (l0.length:Int)) (hy:y = rd_T53 l0 i):textsOf (l0.drop i.toNat) = y.f2 ++ textsOf (l0.drop (i.toNat+1)):=by
  have hil:i.toNat < l0.length:=by omega
  unfold textsOf
  rw [List.drop_eq_getElem_cons hil,List.flatMap_cons,hy];unfold rd_T53
  rw [List.getD_eq_getElem?_getD,List.getElem?_eq_getElem hil];rfl
theorem drop_text {l:List ByteArray} {j:Int} {x:ByteArray} (h0:0≤j) (h1:j < (l.length:Int)) (hx:x = rdOf ByteArray.empty l j):l.drop j.toNat = x :: l.drop (j.toNat+1):=by
  have hjl:j.toNat < l.length:=by omega
  rw [List.drop_eq_getElem_cons hjl,hx];unfold rdOf
  rw [List.getD_eq_getElem?_getD,List.getElem?_eq_getElem hjl];rfl
def limit_Measure.f (k:Nat) (l0_0:List (S53)) (a0_1:Int):Option (Int × Int × Int × Int × Int):=(graph_Edges.f k l0_0 a0_1).bind fun t251 => ((graph_Depth.f k l0_0 a0_1).bind fun t252 => (if TBb l0_0 = true then some (0,(l0_0.length:Int),t251,t252,(textN l0_0:Int)) else none))
def limit_Measure.T1:Bool × List (List Nat × List Nat):=(true,[([],[]),([0],[0]),([1],[1]),([],[]),([3],[3]),([],[]),([5,4],[5]),([2,4,6],[2,4,6]),([],[]),([8,7,6,0,1,2,3,4,5,6,7,8],[7,8])])
def limit_Measure.B1:List Nat:=[0,1,3,0,8,0,56,127,0,511]
theorem limit_Measure.tab1:rtab .any (opsOf Tryd.f20 1) = limit_Measure.T1:=by kernel_rfl
theorem limit_Measure.bits1:waitsOk limit_Measure.T1.2 limit_Measure.B1 = true:=by kernel_rfl
set_option maxHeartbeats 8000000 in
set_option maxRecDepth 100000 in
theorem limit_Measure.calls (k:Nat) (A0_0:Option Addr) (c0_0:Nat) (l0_0:List (S53)) (a0_1:Int) (r1:Int) (r2:Int) (r3:Int) (r4:Int) (r5:Int) (w:World) (hr0_0:Kd.C k53 w A0_0 l0_0.length l0_0) (hc0_0:l0_0.length≤c0_0) (h:limit_Measure.f k l0_0 a0_1 = some (r1,r2,r3,r4,r5)) :
  Calls Tryd.prog 20 #[.agg #[.slice A0_0 l0_0.length c0_0,.int .i64 a0_1]] w fun e w' => e = .returned (.agg #[.int .i64 r1,.int .i64 r2,.int .i64 r3,.int .i64 r4,.int .i64 r5])∧Below w.heap.size w w':=by
 have hu24:=Tryd.underlying24;have hu26:=Tryd.underlying26;have HR0_0:=AM hr0_0;have HC0_0:=AM hc0_0;clear hr0_0 hc0_0;have HB:=AM (Below.refl w.heap.size w);have H:((graph_Edges.f k l0_0 a0_1).bind fun t251 => ((graph_Depth.f k l0_0 a0_1).bind fun t252 => (if TBb l0_0 = true then some (0,(l0_0.length:Int),t251,t252,(textN l0_0:Int)) else none))) = some (r1,r2,r3,r4,r5):=h;clear h;replace H:=Option.bind_eq_some_iff.mp H;obtain ⟨t251,A20,H⟩:=H;replace H:((graph_Depth.f k l0_0 a0_1).bind fun t252 => (if TBb l0_0 = true then some (0,(l0_0.length:Int),t251,t252,(textN l0_0:Int)) else none)) = some (r1,r2,r3,r4,r5):=H;have A2:=AM A20;clear A20;replace H:=Option.bind_eq_some_iff.mp H;obtain ⟨t252,A30,H⟩:=H;replace H:(if TBb l0_0 = true then some (0,(l0_0.length:Int),t251,t252,(textN l0_0:Int)) else none) = some (r1,r2,r3,r4,r5):=H;have A3:=AM A30;clear A30;split at H
 rotate_left
 ·cases H
 rename_i hTB;have HTB:=AM (tb_of hTB);clear hTB;have hl6:=HTB.out.len;have hmm:=@run_makeMap Tryd.prog;simp only [Option.some.injEq,Prod.mk.injEq] at H;obtain ⟨rfl,rfl,rfl,rfl,rfl⟩:=H;go_enter Tryd.func20,Tryd.ntmps20;try go_wp2_with (first | ((with_reducible refine gate_dst (N:=1) rfl ?_);refine box_event ?hg (N:=1) ?hd (cs:=#[.slice A0_0 l0_0.length c0_0,.int .i64 a0_1]) (t:=24) ?hr ?_;(case hd => rfl);(case hg => rfl);(case hr => first | (go_simp;done) | (go_simp;rfl));intro gb249 hg w4 hbox hb;have BK249:=AM (hbox);have GW249:=GW HB hg;have GE249:=GW HB hg;replace HB:=BS HB hb;clear hb hbox hg) | ((with_reducible refine gate_dst (N:=2) rfl ?_);refine box_event ?hg (N:=2) ?hd (cs:=#[.int .i64 0,.int .i64 0,.int .i64 0,.int .i64 0,.int .i64 0]) (t:=26) ?hr ?_;(case hd => rfl);(case hg => rfl);(case hr => first | (go_simp;done) | (go_simp;rfl));intro gb250 hg w5 hbox hb;have BK250:=AM (hbox);have GW250:=GW HB hg;have GE250:=GW HB hg;replace HB:=BS HB hb;have NB249_250:=NL BK249 hg;have NB250_249:=NG BK249 hg;replace BK249:=BE BK249 hb;clear hb hbox hg))
 replace BK249:=AM (blk_drew BK249.out);replace BK250:=AM (blk_drew BK250.out);replace HB:=AM (below_drew1 HB.out);refine start_ (n:=10) (S:=fun w' => w'.cell? ⟨gb249,0,none⟩ = some (.slice A0_0 l0_0.length c0_0)∧w'.cell? ⟨gb249,1,none⟩ = some (.int .i64 a0_1)) (ds:=[]) #[false,false,false,false,false,false,false,false,false,false] (by kernel_rfl) rfl rfl ⟨(blk_cell BK249.out 0).trans rfl,(blk_cell BK249.out 1).trans rfl⟩ (fun hHeld => ?_);refine with_tabW limit_Measure.tab1 limit_Measure.bits1 (fun HT_ HW_ => ?_);generalize w5.drew = w6 at BK249 BK250 HB hHeld ⊢;refine pure_ (i:=0) (N:=some 9) (v:=?_) (a':=?_) #[true,false,false,false,false,false,false,false,false,false] rfl rfl (any_of HT_.out (by kernel_rfl)) (fun _ _ _ h => h) (Or.inl ⟨by rfl,?_⟩) ?_ ?_
 rotate_left
 ·intro w';go_simp
  with_reducible rfl
 rotate_left
 ·simp only [Act.put,List.setIfInBounds_toArray,List.set_cons_zero,List.set_cons_succ,i64_w,i32_w];rfl
 refine take_ (i:=1) (N:=some 10) (v:=?_) (a':=?_) #[true,true,false,false,false,false,false,false,false,false] rfl rfl (take_ofW HT_.out HW_.out (by kernel_rfl)) (fun _ _ _ h => h) (Or.inl ⟨by rfl,?_⟩) hHeld ?_ ?_
 rotate_left
 ·rintro w' ⟨s0,s1⟩;go_simp
  with_reducible rfl
 rotate_left
 ·simp only [Act.put,List.setIfInBounds_toArray,List.set_cons_zero,List.set_cons_succ,i64_w,i32_w];rfl
 refine pure_ (i:=2) (N:=some 11) (v:=?_) (a':=?_) #[true,true,true,false,false,false,false,false,false,false] rfl rfl (any_of HT_.out (by kernel_rfl)) (fun _ _ _ h => h) (Or.inl ⟨by rfl,?_⟩) ?_ ?_
 rotate_left
 ·intro w';go_simp
  with_reducible rfl
 rotate_left
 ·simp only [Act.put,List.setIfInBounds_toArray,List.set_cons_zero,List.set_cons_succ,i64_w,i32_w];rfl
 refine take_ (i:=3) (N:=some 12) (v:=?_) (a':=?_) #[true,true,true,true,false,false,false,false,false,false] rfl rfl (take_ofW HT_.out HW_.out (by kernel_rfl)) (fun _ _ _ h => h) (Or.inl ⟨by rfl,?_⟩) hHeld ?_ ?_
 rotate_left
 ·rintro w' ⟨s0,s1⟩;go_simp
  with_reducible rfl
 rotate_left
 ·simp only [Act.put,List.setIfInBounds_toArray,List.set_cons_zero,List.set_cons_succ,i64_w,i32_w];rfl
 refine take_ (i:=5) (N:=some 14) (v:=?_) (a':=?_) #[true,true,true,true,false,true,false,false,false,false] rfl rfl (take_ofW HT_.out HW_.out (by kernel_rfl)) (fun _ _ _ h => h) (Or.inl ⟨by rfl,?_⟩) hHeld ?_ ?_
 rotate_left
 ·rintro w' ⟨s0,s1⟩;go_simp
  with_reducible rfl
 rotate_left
 ·simp only [Act.put,List.setIfInBounds_toArray,List.set_cons_zero,List.set_cons_succ,i64_w,i32_w];rfl
 refine join_ (σ:=Nat) 1 #[true,true,true,true,true,true,true,true,true,false] (fun s_ => [(13,.int .i64 t251),(15,.int .i64 t252),(3,.pointer (some ⟨s_,0,none⟩)),(16,.agg #[.int .i64 0,.int .i64 (l0_0.length:Int),.int .i64 t251,.int .i64 t252,.int .i64 0])]) (fun s_ w' => (w'.cell? ⟨gb249,0,none⟩ = some (.slice A0_0 l0_0.length c0_0)∧w'.cell? ⟨gb249,1,none⟩ = some (.int .i64 a0_1))∧(w'.heap[gb249]? = some (.cells #[.slice A0_0 l0_0.length c0_0,.int .i64 a0_1] 24 (0,0)))∧(w'.heap[gb250]? = some (.cells #[.int .i64 0,.int .i64 0,.int .i64 0,.int .i64 0,.int .i64 0] 26 (0,0)))∧(w'.heap[s_]? = some (.cells #[.int .i64 0,.int .i64 0,.int .i64 0,.int .i64 0,.int .i64 0] 26 (0,0)))∧(w.heap.size≤s_)∧(w.heap.size≤s_)∧(gb249≠s_)∧(s_≠gb249)∧(gb250≠s_)∧(s_≠gb250)∧(Below w.heap.size w w')) ?_ ?_
 rotate_left
 ·intro hCont;refine two_ (i:=4) (j:=8) (Ni:=some 13) (Nj:=some 3) #[true,true,true,true,true,true,false,false,false,false] #[true,true,true,true,false,true,false,false,true,false] rfl rfl rfl rfl (two_of HT_.out (by kernel_rfl)) (by decide) (by decide) (fun K hK => ?_) (fun K hK => ?_)
  ·skip
   refine goes_ Tryd.func48 (by kernel_rfl) rfl #[.agg #[.slice A0_0 l0_0.length c0_0,.int .i64 a0_1]] (by rfl) rfl rfl (by (try simp only [List.map_toArray,List.map_cons,List.map_nil]);first | done | rfl | (simp only [List.length_drop,List.length_take];rfl)) ?_;with_reducible refine (graph_Edges.calls k _ _ l0_0 a0_1 t251 _ ?side1 ?side2 A2.out).mono ?_
   (case side1 => exact Kd.C_below HR0_0.out (BB HB))
   (case side2 => exact HC0_0.out)
   rintro e w7 ⟨rfl,hb⟩;refine ⟨_,rfl,?_⟩;replace BK249:=BE BK249 hb;replace BK250:=BE BK250 hb;replace HB:=BS HB hb;(try clear hb)
   (try clear hb2)
   (try clear hk)
   (try clear hi)
   refine hK.out _ _ ⟨(blk_cell BK249.out 0).trans rfl,(blk_cell BK249.out 1).trans rfl⟩ (fun hHeld => ?_);clear hK K;refine norm_ (a':=?_) ?_ ?_
   rotate_left
   ·show Act.put _ (some 13) _ = _
    simp only [Act.put,List.setIfInBounds_toArray,List.set_cons_zero,List.set_cons_succ,i64_w,i32_w];rfl
   refine two_ (i:=6) (j:=8) (Ni:=some 15) (Nj:=some 3) #[true,true,true,true,true,true,true,false,false,false] #[true,true,true,true,true,true,false,false,true,false] rfl rfl rfl rfl (two_of HT_.out (by kernel_rfl)) (by decide) (by decide) (fun K hK => ?_) (fun K hK => ?_)
   ·skip
    refine goes_ Tryd.func39 (by kernel_rfl) rfl #[.agg #[.slice A0_0 l0_0.length c0_0,.int .i64 a0_1]] (by rfl) rfl rfl (by (try simp only [List.map_toArray,List.map_cons,List.map_nil]);first | done | rfl | (simp only [List.length_drop,List.length_take];rfl)) ?_;with_reducible refine (graph_Depth.calls k _ _ l0_0 a0_1 t252 _ ?side1 ?side2 A3.out).mono ?_
    (case side1 => exact Kd.C_below HR0_0.out (BB HB))
    (case side2 => exact HC0_0.out)
    rintro e w8 ⟨rfl,hb⟩;refine ⟨_,rfl,?_⟩;replace BK249:=BE BK249 hb;replace BK250:=BE BK250 hb;replace HB:=BS HB hb;(try clear hb)
    (try clear hb2)
    (try clear hk)
    (try clear hi)
    refine hK.out _ _ ⟨(blk_cell BK249.out 0).trans rfl,(blk_cell BK249.out 1).trans rfl⟩ (fun hHeld => ?_);clear hK K;refine norm_ (a':=?_) ?_ ?_
    rotate_left
    ·show Act.put _ (some 15) _ = _
     simp only [Act.put,List.setIfInBounds_toArray,List.set_cons_zero,List.set_cons_succ,i64_w,i32_w];rfl
    refine pure_ (i:=7) (N:=some 16) (v:=?_) (a':=?_) #[true,true,true,true,true,true,true,true,false,false] rfl rfl (any_of HT_.out (by kernel_rfl)) (fun _ _ _ h => h) (Or.inl ⟨by rfl,?_⟩) ?_ ?_
    rotate_left
    ·intro w';go_simp
     with_reducible rfl
    rotate_left
    ·simp only [Act.put,List.setIfInBounds_toArray,List.set_cons_zero,List.set_cons_succ,i64_w,i32_w];rfl
    refine one_ (i:=8) (N:=some 3) #[true,true,true,true,true,true,true,true,true,false] rfl rfl (one_of HT_.out (by kernel_rfl)) (by decide) (fun K hK => ?_);refine box_step ?hg (N:=3) ?hd (cs:=#[.int .i64 0,.int .i64 0,.int .i64 0,.int .i64 0,.int .i64 0]) (t:=26) ?hr ?_;(case hd => rfl);(case hg => rfl);(case hr => first | (go_simp;done) | (go_simp;rfl));intro gb253 hg w9 hbox hb;have BK253:=AM (hbox);have GW253:=GW HB hg;have GE253:=GW HB hg;replace HB:=BS HB hb;have NB249_253:=NL BK249 hg;have NB253_249:=NG BK249 hg;replace BK249:=BE BK249 hb;have NB250_253:=NL BK250 hg;have NB253_250:=NG BK250 hg;replace BK250:=BE BK250 hb;clear hb hbox hg;refine hK.out _ _ ⟨(blk_cell BK249.out 0).trans rfl,(blk_cell BK249.out 1).trans rfl⟩ (fun hHeld => ?_);clear hK K;refine norm_ (a':=?_) ?_ ?_
    rotate_left
    ·show Act.put _ (some 3) _ = _
     simp only [Act.put,List.setIfInBounds_toArray,List.set_cons_zero,List.set_cons_succ,i64_w,i32_w];rfl
    exact norm_ (by simp only [putAll,Act.put,List.setIfInBounds_toArray,List.set_cons_zero,List.set_cons_succ]) (hCont (gb253) _ ⟨hHeld,(BL BK249),(BL BK250),(BL BK253),GW253.out,GE253.out,NB249_253.out,NB253_249.out,NB250_253.out,NB253_250.out,(BB HB)⟩)
   ·skip
    refine box_step ?hg (N:=3) ?hd (cs:=#[.int .i64 0,.int .i64 0,.int .i64 0,.int .i64 0,.int .i64 0]) (t:=26) ?hr ?_;(case hd => rfl);(case hg => rfl);(case hr => first | (go_simp;done) | (go_simp;rfl));intro gb253 hg w8 hbox hb;have BK253:=AM (hbox);have GW253:=GW HB hg;have GE253:=GW HB hg;replace HB:=BS HB hb;have NB249_253:=NL BK249 hg;have NB253_249:=NG BK249 hg;replace BK249:=BE BK249 hb;have NB250_253:=NL BK250 hg;have NB253_250:=NG BK250 hg;replace BK250:=BE BK250 hb;clear hb hbox hg;refine hK.out _ _ ⟨(blk_cell BK249.out 0).trans rfl,(blk_cell BK249.out 1).trans rfl⟩ (fun hHeld => ?_);clear hK K;refine norm_ (a':=?_) ?_ ?_
    rotate_left
    ·show Act.put _ (some 3) _ = _
     simp only [Act.put,List.setIfInBounds_toArray,List.set_cons_zero,List.set_cons_succ,i64_w,i32_w];rfl
    refine one_ (i:=6) (N:=some 15) #[true,true,true,true,true,true,true,false,true,false] rfl rfl (one_of HT_.out (by kernel_rfl)) (by decide) (fun K hK => ?_);refine goes_ Tryd.func39 (by kernel_rfl) rfl #[.agg #[.slice A0_0 l0_0.length c0_0,.int .i64 a0_1]] (by rfl) rfl rfl (by (try simp only [List.map_toArray,List.map_cons,List.map_nil]);first | done | rfl | (simp only [List.length_drop,List.length_take];rfl)) ?_;with_reducible refine (graph_Depth.calls k _ _ l0_0 a0_1 t252 _ ?side1 ?side2 A3.out).mono ?_
    (case side1 => exact Kd.C_below HR0_0.out (BB HB))
    (case side2 => exact HC0_0.out)
    rintro e w9 ⟨rfl,hb⟩;refine ⟨_,rfl,?_⟩;replace BK249:=BE BK249 hb;replace BK250:=BE BK250 hb;replace BK253:=BE BK253 hb;replace HB:=BS HB hb;(try clear hb)
    (try clear hb2)
    (try clear hk)
    (try clear hi)
    refine hK.out _ _ ⟨(blk_cell BK249.out 0).trans rfl,(blk_cell BK249.out 1).trans rfl⟩ (fun hHeld => ?_);clear hK K;refine norm_ (a':=?_) ?_ ?_
    rotate_left
    ·show Act.put _ (some 15) _ = _
     simp only [Act.put,List.setIfInBounds_toArray,List.set_cons_zero,List.set_cons_succ,i64_w,i32_w];rfl
    refine pure_ (i:=7) (N:=some 16) (v:=?_) (a':=?_) #[true,true,true,true,true,true,true,true,true,false] rfl rfl (any_of HT_.out (by kernel_rfl)) (fun _ _ _ h => h) (Or.inl ⟨by rfl,?_⟩) ?_ ?_
    rotate_left
    ·intro w';go_simp
     with_reducible rfl
    rotate_left
    ·simp only [Act.put,List.setIfInBounds_toArray,List.set_cons_zero,List.set_cons_succ,i64_w,i32_w];rfl
    exact norm_ (by simp only [putAll,Act.put,List.setIfInBounds_toArray,List.set_cons_zero,List.set_cons_succ]) (hCont (gb253) _ ⟨hHeld,(BL BK249),(BL BK250),(BL BK253),GW253.out,GE253.out,NB249_253.out,NB253_249.out,NB250_253.out,NB253_250.out,(BB HB)⟩)
  ·skip
   refine box_step ?hg (N:=3) ?hd (cs:=#[.int .i64 0,.int .i64 0,.int .i64 0,.int .i64 0,.int .i64 0]) (t:=26) ?hr ?_;(case hd => rfl);(case hg => rfl);(case hr => first | (go_simp;done) | (go_simp;rfl));intro gb253 hg w7 hbox hb;have BK253:=AM (hbox);have GW253:=GW HB hg;have GE253:=GW HB hg;replace HB:=BS HB hb;have NB249_253:=NL BK249 hg;have NB253_249:=NG BK249 hg;replace BK249:=BE BK249 hb;have NB250_253:=NL BK250 hg;have NB253_250:=NG BK250 hg;replace BK250:=BE BK250 hb;clear hb hbox hg;refine hK.out _ _ ⟨(blk_cell BK249.out 0).trans rfl,(blk_cell BK249.out 1).trans rfl⟩ (fun hHeld => ?_);clear hK K;refine norm_ (a':=?_) ?_ ?_
   rotate_left
   ·show Act.put _ (some 3) _ = _
    simp only [Act.put,List.setIfInBounds_toArray,List.set_cons_zero,List.set_cons_succ,i64_w,i32_w];rfl
   refine one_ (i:=4) (N:=some 13) #[true,true,true,true,true,true,false,false,true,false] rfl rfl (one_of HT_.out (by kernel_rfl)) (by decide) (fun K hK => ?_);refine goes_ Tryd.func48 (by kernel_rfl) rfl #[.agg #[.slice A0_0 l0_0.length c0_0,.int .i64 a0_1]] (by rfl) rfl rfl (by (try simp only [List.map_toArray,List.map_cons,List.map_nil]);first | done | rfl | (simp only [List.length_drop,List.length_take];rfl)) ?_;with_reducible refine (graph_Edges.calls k _ _ l0_0 a0_1 t251 _ ?side1 ?side2 A2.out).mono ?_
   (case side1 => exact Kd.C_below HR0_0.out (BB HB))
   (case side2 => exact HC0_0.out)
   rintro e w8 ⟨rfl,hb⟩;refine ⟨_,rfl,?_⟩;replace BK249:=BE BK249 hb;replace BK250:=BE BK250 hb;replace BK253:=BE BK253 hb;replace HB:=BS HB hb;(try clear hb)
   (try clear hb2)
   (try clear hk)
   (try clear hi)
   refine hK.out _ _ ⟨(blk_cell BK249.out 0).trans rfl,(blk_cell BK249.out 1).trans rfl⟩ (fun hHeld => ?_);clear hK K;refine norm_ (a':=?_) ?_ ?_
   rotate_left
   ·show Act.put _ (some 13) _ = _
    simp only [Act.put,List.setIfInBounds_toArray,List.set_cons_zero,List.set_cons_succ,i64_w,i32_w];rfl
   refine one_ (i:=6) (N:=some 15) #[true,true,true,true,true,true,true,false,true,false] rfl rfl (one_of HT_.out (by kernel_rfl)) (by decide) (fun K hK => ?_);refine goes_ Tryd.func39 (by kernel_rfl) rfl #[.agg #[.slice A0_0 l0_0.length c0_0,.int .i64 a0_1]] (by rfl) rfl rfl (by (try simp only [List.map_toArray,List.map_cons,List.map_nil]);first | done | rfl | (simp only [List.length_drop,List.length_take];rfl)) ?_;with_reducible refine (graph_Depth.calls k _ _ l0_0 a0_1 t252 _ ?side1 ?side2 A3.out).mono ?_
   (case side1 => exact Kd.C_below HR0_0.out (BB HB))
   (case side2 => exact HC0_0.out)
   rintro e w9 ⟨rfl,hb⟩;refine ⟨_,rfl,?_⟩;replace BK249:=BE BK249 hb;replace BK250:=BE BK250 hb;replace BK253:=BE BK253 hb;replace HB:=BS HB hb;(try clear hb)
   (try clear hb2)
   (try clear hk)
   (try clear hi)
   refine hK.out _ _ ⟨(blk_cell BK249.out 0).trans rfl,(blk_cell BK249.out 1).trans rfl⟩ (fun hHeld => ?_);clear hK K;refine norm_ (a':=?_) ?_ ?_
   rotate_left
   ·show Act.put _ (some 15) _ = _
    simp only [Act.put,List.setIfInBounds_toArray,List.set_cons_zero,List.set_cons_succ,i64_w,i32_w];rfl
   refine pure_ (i:=7) (N:=some 16) (v:=?_) (a':=?_) #[true,true,true,true,true,true,true,true,true,false] rfl rfl (any_of HT_.out (by kernel_rfl)) (fun _ _ _ h => h) (Or.inl ⟨by rfl,?_⟩) ?_ ?_
   rotate_left
   ·intro w';go_simp
    with_reducible rfl
   rotate_left
   ·simp only [Act.put,List.setIfInBounds_toArray,List.set_cons_zero,List.set_cons_succ,i64_w,i32_w];rfl
   exact norm_ (by simp only [putAll,Act.put,List.setIfInBounds_toArray,List.set_cons_zero,List.set_cons_succ]) (hCont (gb253) _ ⟨hHeld,(BL BK249),(BL BK250),(BL BK253),GW253.out,GE253.out,NB249_253.out,NB253_249.out,NB250_253.out,NB253_250.out,(BB HB)⟩)
 rintro gb253 w10 ⟨hS_,h0_,h1_,h2_,h3_,h4_,h5_,h6_,h7_,h8_,h9_⟩;have n0_:Aside0 (w10.heap[gb249]? = some (.cells #[.slice A0_0 l0_0.length c0_0,.int .i64 a0_1] 24 (0,0))):=⟨h0_⟩;have n1_:Aside0 (w10.heap[gb250]? = some (.cells #[.int .i64 0,.int .i64 0,.int .i64 0,.int .i64 0,.int .i64 0] 26 (0,0))):=⟨h1_⟩;have n2_:Aside0 (w10.heap[gb253]? = some (.cells #[.int .i64 0,.int .i64 0,.int .i64 0,.int .i64 0,.int .i64 0] 26 (0,0))):=⟨h2_⟩;have n3_:Aside0 (w.heap.size≤gb253):=⟨h3_⟩;have n4_:Aside0 (w.heap.size≤gb253):=⟨h4_⟩;have n5_:Aside0 (gb249≠gb253):=⟨h5_⟩;have n6_:Aside0 (gb253≠gb249):=⟨h6_⟩;have n7_:Aside0 (gb250≠gb253):=⟨h7_⟩;have n8_:Aside0 (gb253≠gb250):=⟨h8_⟩;have n9_:Aside0 (Below w.heap.size w w10):=⟨h9_⟩;clear BK249;clear BK250;clear HB;clear h0_ h1_ h2_ h3_ h4_ h5_ h6_ h7_ h8_ h9_;have BK249:=n0_;have BK250:=n1_;have BK253:=n2_;have GW253:=n3_;have GE253:=n4_;have NB249_253:=n5_;have NB253_249:=n6_;have NB250_253:=n7_;have NB253_250:=n8_;have HB:=n9_;clear n0_ n1_ n2_ n3_ n4_ n5_ n6_ n7_ n8_ n9_;have hHeld:w10.cell? ⟨gb249,0,none⟩ = some (.slice A0_0 l0_0.length c0_0)∧w10.cell? ⟨gb249,1,none⟩ = some (.int .i64 a0_1):=hS_;refine norm_ (a':=?_) ?_ ?_
 rotate_left
 ·simp only [putAll,Act.put,List.setIfInBounds_toArray,List.set_cons_zero,List.set_cons_succ];rfl
 refine one_ (i:=9) (N:=none) #[true,true,true,true,true,true,true,true,true,true] rfl rfl (one_of HT_.out (by kernel_rfl)) (by decide) (fun K hK => ?_);have hs11:w10.cell? ⟨gb253,0,none⟩ = some (.int .i64 0):=(blk_cell BK253.out 0).trans rfl;have hfs11:=BF BK253 0;have hns11_0:=NB249_253.out;have hns11_1:=NB250_253.out;have hms11_0:=NB253_249.out;have hms11_1:=NB253_250.out;have hs12:w10.cell? ⟨gb253,1,none⟩ = some (.int .i64 0):=(blk_cell BK253.out 1).trans rfl;have hfs12:=BF BK253 1;have hns12_0:=NB249_253.out;have hns12_1:=NB250_253.out;have hms12_0:=NB253_249.out;have hms12_1:=NB253_250.out;have hs13:w10.cell? ⟨gb253,2,none⟩ = some (.int .i64 0):=(blk_cell BK253.out 2).trans rfl;have hfs13:=BF BK253 2;have hns13_0:=NB249_253.out;have hns13_1:=NB250_253.out;have hms13_0:=NB253_249.out;have hms13_1:=NB253_250.out;have hs14:w10.cell? ⟨gb253,3,none⟩ = some (.int .i64 0):=(blk_cell BK253.out 3).trans rfl;have hfs14:=BF BK253 3;have hns14_0:=NB249_253.out;have hns14_1:=NB250_253.out;have hms14_0:=NB253_249.out;have hms14_1:=NB253_250.out;have hs15:w10.cell? ⟨gb253,4,none⟩ = some (.int .i64 0):=(blk_cell BK253.out 4).trans rfl;have hfs15:=BF BK253 4;have hns15_0:=NB249_253.out;have hns15_1:=NB250_253.out;have hms15_0:=NB253_249.out;have hms15_1:=NB253_250.out;refine skip_ (w1:=?_) (by rfl) rfl ?_ ?_
 rotate_left
 ·go_simp
  rfl
 refine hK.out _ _ ⟨((cell_far (p:=⟨gb253,_,none⟩) NB249_253.out _).trans (((cell_far (p:=⟨gb253,_,none⟩) NB249_253.out _).trans (((cell_far (p:=⟨gb253,_,none⟩) NB249_253.out _).trans (((cell_far (p:=⟨gb253,_,none⟩) NB249_253.out _).trans (((cell_far (p:=⟨gb253,_,none⟩) NB249_253.out _).trans (hHeld.1)))))))))),((cell_far (p:=⟨gb253,_,none⟩) NB249_253.out _).trans (((cell_far (p:=⟨gb253,_,none⟩) NB249_253.out _).trans (((cell_far (p:=⟨gb253,_,none⟩) NB249_253.out _).trans (((cell_far (p:=⟨gb253,_,none⟩) NB249_253.out _).trans (((cell_far (p:=⟨gb253,_,none⟩) NB249_253.out _).trans (hHeld.2))))))))))⟩ (fun hHeld => ?_);clear hK K;refine done_ (done_of HT_.out (by kernel_rfl)) ?_;have hN0:=blk_put BK253.out 0 (.int .i64 0) rfl;have hN1:=blk_put hN0 1 (.int .i64 (l0_0.length:Int)) rfl;have hN2:=blk_put hN1 2 (.int .i64 t251) rfl;have hN3:=blk_put hN2 3 (.int .i64 t252) rfl;have hN4:=blk_put hN3 4 (.int .i64 0) rfl;have hZ5:=blk_far (p:=⟨gb253,4,none⟩) (blk_far (p:=⟨gb253,3,none⟩) (blk_far (p:=⟨gb253,2,none⟩) (blk_far (p:=⟨gb253,1,none⟩) (blk_far (p:=⟨gb253,0,none⟩) (BK250.out) NB250_253.out (.int .i64 0)) NB250_253.out (.int .i64 (l0_0.length:Int))) NB250_253.out (.int .i64 t251)) NB250_253.out (.int .i64 t252)) NB250_253.out (.int .i64 0);have hX5:=blk_far (p:=⟨gb253,4,none⟩) (blk_far (p:=⟨gb253,3,none⟩) (blk_far (p:=⟨gb253,2,none⟩) (blk_far (p:=⟨gb253,1,none⟩) (blk_far (p:=⟨gb253,0,none⟩) (BK249.out) NB249_253.out (.int .i64 0)) NB249_253.out (.int .i64 (l0_0.length:Int))) NB249_253.out (.int .i64 t251)) NB249_253.out (.int .i64 t252)) NB249_253.out (.int .i64 0);have hB5:Below w.heap.size w (((((w10.setCell ⟨gb253,0,none⟩ (.int .i64 0)).setCell ⟨gb253,1,none⟩ (.int .i64 (l0_0.length:Int))).setCell ⟨gb253,2,none⟩ (.int .i64 t251)).setCell ⟨gb253,3,none⟩ (.int .i64 t252)).setCell ⟨gb253,4,none⟩ (.int .i64 0)):=((((HB.out.setCell (p:=⟨gb253,0,none⟩) GW253.out _).setCell (p:=⟨gb253,1,none⟩) GW253.out _).setCell (p:=⟨gb253,2,none⟩) GW253.out _).setCell (p:=⟨gb253,3,none⟩) GW253.out _).setCell (p:=⟨gb253,4,none⟩) GW253.out _;clear hHeld HT_ HW_ hS_ BK253 BK250 BK249 HB;clear hN0 hN1 hN2 hN3;generalize (((((w10.setCell ⟨gb253,0,none⟩ (.int .i64 0)).setCell ⟨gb253,1,none⟩ (.int .i64 (l0_0.length:Int))).setCell ⟨gb253,2,none⟩ (.int .i64 t251)).setCell ⟨gb253,3,none⟩ (.int .i64 t252)).setCell ⟨gb253,4,none⟩ (.int .i64 0)) = w11 at hN4 hZ5 hX5 hB5 ⊢;have HY:=Lib.hid hN4;have HZ:=Lib.hid hZ5;have HB:=Lib.hid hB5;have q0:w11.cell? ⟨gb249,0,none⟩ = some (.slice A0_0 l0_0.length c0_0):=(blk_cell hX5 0).trans rfl;have q0m:(w11.alloc (.map #[] 0)).cell? ⟨gb249,0,none⟩ = some (.slice A0_0 l0_0.length c0_0):=Lib.cell?_alloc_some _ q0;have GYw:=Lib.hid GW253.out;have GZw:=Lib.hid GW250.out;have NYZ:=Lib.hid NB253_250.out;clear hN4 hZ5 hX5 hB5;go_wp2_with (fail)
 clear q0 q0m;go_loopg [21] l0_0.length (fun kq v21 wr => ∃ (i:Int) (m:List ByteArray) (s:Nat),v21 = .int .i64 i∧0≤i∧i+kq = l0_0.length∧Aside0 (MI l0_0 (textsOf (l0_0.drop i.toNat)) m s)∧Aside0 (MapS.IsSet wr w11.heap.size m.length m)∧Aside0 (wr.heap[gb253]? = some (.cells #[.int .i64 0,.int .i64 (l0_0.length:Int),.int .i64 t251,.int .i64 t252,.int .i64 (s:Int)] 26 (0,0)))∧Aside0 (wr.heap[gb250]? = some (.cells #[.int .i64 0,.int .i64 0,.int .i64 0,.int .i64 0,.int .i64 0] 26 (0,0)))∧Aside0 (Below w.heap.size w wr))
 case atStart => exact ⟨0,[],0,rfl,by omega,by omega,⟨MI.start HTB.out⟩,⟨MapS.set_made w11⟩,⟨blk_alloc HY.out _⟩,⟨blk_alloc HZ.out _⟩,⟨HB.out.alloc HB.out.size _⟩⟩
 case round =>
  obtain ⟨i,m,s,rfl,hi0,hik,hMI,hset,hY,hZ,hB⟩:=hrel;obtain ⟨wo,hwo⟩:∃ z,z = wr:=⟨_,rfl⟩;subst hwo;by_cases hlt:i < (l0_0.length:Int)
  ·have t4:decide (i < (l0_0.length:Int)) = true:=decide_eq_true hlt;obtain ⟨ko,rfl⟩:∃ g,gk = g+1:=⟨gk - 1,by omega⟩;obtain ⟨ad,B1,d1,B2,d2,B3,d3,e,hx0,hx1,hx2,hx3,hl1,hi1,hl2,hi2,hl3,hi3⟩:=at_T53 HR0_0.out i hi0 hlt;cases e
   replace hx0:=cell_tr hB.out hx0;replace hx1:=cell_tr hB.out hx1;replace hx2:=cell_tr hB.out hx2;replace hx3:=cell_tr hB.out hx3;obtain ⟨y,hy⟩:∃ y,y = rd_T53 l0_0 i:=⟨_,rfl⟩;rw [← hy] at hx0 hx1 hx2 hx3 hl1 hi1 hl2 hi2 hl3 hi3;have hdr:textsOf (l0_0.drop i.toNat) = y.f2 ++ textsOf (l0_0.drop (i.toNat+1)):=texts_step hi0 hlt hy;have hMI2:MI l0_0 (y.f2 ++ textsOf (l0_0.drop (i.toNat+1))) m s:=by rw [← hdr];exact hMI.out
   have hy2:y.f2.length≤1000000:=by have:=hMI2.cnt;simp only [List.length_append] at this;omega
   have HM2:=Lib.hid hMI2;have HI2:=Lib.hid hi2;clear hMI hMI2 hdr hy hi1 hi2 hi3 hl1 hl2 hl3;go_upto_region 6 with (fail)
   have hn7:=heap_alloc_new wo (.cells #[.int .i64 y.f0,.slice B1 y.f1.length d1,.slice B2 y.f2.length d2,.slice B3 y.f3.length d3] 53);have hb7:Below wo.heap.size wo (wo.alloc (.cells #[.int .i64 y.f0,.slice B1 y.f1.length d1,.slice B2 y.f2.length d2,.slice B3 y.f3.length d3] 53)):=(Below.refl _ _).alloc (Nat.le_refl _) _;clear hx0 hx1 hx2 hx3;generalize wo.alloc (.cells #[.int .i64 y.f0,.slice B1 y.f1.length d1,.slice B2 y.f2.length d2,.slice B3 y.f3.length d3] 53) = w7 at hn7 hb7 ⊢;have q2:w7.cell? ⟨wo.heap.size,2,none⟩ = some (.slice B2 y.f2.length d2):=(blk_cell hn7 2).trans rfl;have HS7:=Lib.hid (hset.out.of_block (hb7.block w11.heap.size hset.out.lt));have HY7:=Lib.hid ((hb7.block gb253 (blk_lt hY.out)).trans hY.out);have HZ7:=Lib.hid ((hb7.block gb250 (blk_lt hZ.out)).trans hZ.out);have HB7:=Lib.hid (below_step hB.out hb7);clear hn7 hb7;go_wp2_with (fail)
   clear q2;go_loopg [28] y.f2.length (fun kq v28 wq => ∃ (j:Int) (m:List ByteArray) (s:Nat),v28 = .int .i64 j∧0≤j∧j+kq = y.f2.length∧Aside0 (MI l0_0 (y.f2.drop j.toNat ++ textsOf (l0_0.drop (i.toNat+1))) m s)∧Aside0 (MapS.IsSet wq w11.heap.size m.length m)∧Aside0 (wq.heap[gb253]? = some (.cells #[.int .i64 0,.int .i64 (l0_0.length:Int),.int .i64 t251,.int .i64 t252,.int .i64 (s:Int)] 26 (0,0)))∧Aside0 (wq.heap[gb250]? = some (.cells #[.int .i64 0,.int .i64 0,.int .i64 0,.int .i64 0,.int .i64 0] 26 (0,0)))∧Aside0 (Below w.heap.size w wq) )
   case atStart => exact ⟨0,m,s,rfl,by omega,by omega,⟨by simpa using HM2.out⟩,⟨HS7.out⟩,⟨HY7.out⟩,⟨HZ7.out⟩,⟨HB7.out⟩⟩
   case round =>
    obtain ⟨j,m2,s2,rfl,hj0,hjk,hMI,hset2,hY2,hZ2,hB2⟩:=hrel;obtain ⟨wp,hwp⟩:∃ z,z = wr:=⟨_,rfl⟩;subst hwp;by_cases hjl:j < (y.f2.length:Int)
    ·have t5:decide (j < (y.f2.length:Int)) = true:=decide_eq_true hjl;obtain ⟨kq,rfl⟩:∃ g,gk = g+1:=⟨gk - 1,by omega⟩;obtain ⟨ad2,e2,hx⟩:=Kd.at_string (Kd.C_below HI2.out hB2.out) j hj0 hjl;cases e2
     obtain ⟨x,hxd⟩:∃ x,x = rdOf ByteArray.empty y.f2 j:=⟨_,rfl⟩;rw [← hxd] at hx;have hMI3:MI l0_0 (x :: (y.f2.drop (j.toNat+1) ++ textsOf (l0_0.drop (i.toNat+1)))) m2 s2:=by
      have:=hMI.out;rwa [show y.f2.drop j.toNat = x :: y.f2.drop (j.toNat+1) from drop_text hj0 hjl hxd,List.cons_append] at this
     have hxs:s2+x.size≤1000000000000:=by have:=hMI3.sum;simp only [List.map_cons,List.sum_cons] at this;omega
     have hml:m2.length < 1000000:=by have:=hMI3.cnt;simp only [List.length_cons] at this;omega
     have hxm:x.size≤maxLen:=by unfold maxLen;omega
     have hmx:m2.length < maxLen:=by unfold maxLen;omega
     have HM3:=Lib.hid hMI3;have HSet:=Lib.hid hset2.out;clear hMI hMI3 hxd hset2;have hyb:=blk_lt hY2.out;have hzb:=blk_lt hZ2.out;by_cases hm:x ∈ m2
     ·have hd:decide (x ∈ m2) = true:=decide_eq_true hm;have HMo:=Lib.hid (HM3.out.old hm);clear hm;go_wp2_with (at_lookup;refine MapS.wpList_look _ rfl _ _ rfl w11.heap.size m2.length m2 HSet.out x hxm rfl rfl ?_;rw [hd])
      go_roundg kq
      case measure => omega
      case rel => exact ⟨j+1,m2,s2,rfl,by omega,by omega,⟨by rw [show (j+1).toNat = j.toNat+1 by omega];exact HMo.out⟩,⟨HSet.out⟩,⟨hY2.out⟩,⟨hZ2.out⟩,⟨hB2.out⟩⟩
     ·have hd:decide (x ∈ m2) = false:=decide_eq_false hm;have HMn:=Lib.hid (HM3.out.new hm);have HNY:=Lib.hid (show some gb253≠some w11.heap.size from fun e => by injection e with e;have:=blk_lt HY.out;omega);have HNZ:=Lib.hid (show some gb250≠some w11.heap.size from fun e => by injection e with e;have:=blk_lt HZ.out;omega);have HW11:=Lib.hid HB.out.size;clear hm;go_wp2_with (first
       | (at_lookup;refine MapS.wpList_look _ rfl _ _ rfl w11.heap.size m2.length m2 HSet.out x hxm rfl rfl ?_;rw [hd])
       | (at_mapUpdate;refine MapS.wpList_store _ rfl _ _ _ rfl w11.heap.size m2.length m2 HSet.out x hxm hmx rfl rfl rfl ?_;intro w8 hset8 hg8;have HS8:=Lib.hid hset8;have HG8:=Lib.hid hg8;have HY8:=Lib.hid ((hg8.block gb253 hyb HNY.out).trans hY2.out);have HZ8:=Lib.hid ((hg8.block gb250 hzb HNZ.out).trans hZ2.out);have c84:w8.cell? ⟨gb253,4,none⟩ = some (.int .i64 (s2:Int)):=(blk_cell HY8.out 4).trans rfl;have f84:=blk_frozen HY8.out 4;clear hset8 hg8))
      go_roundg kq
      case measure => omega
      case rel =>
       have hy9:=blk_put HY8.out 4 (.int .i64 ((s2:Int)+(x.size:Int))) rfl;have hz9:=blk_far (p:=⟨gb253,4,none⟩) HZ8.out (Ne.symm NYZ.out) (.int .i64 ((s2:Int)+(x.size:Int)));have hs9:MapS.IsSet (w8.setCell ⟨gb253,4,none⟩ (.int .i64 ((s2:Int)+(x.size:Int)))) w11.heap.size (m2.length+1) (x :: m2):=HS8.out.of_block (Below.heap_setCell _ _ _ _ (fun e => HNY.out (by rw [show w11.heap.size = gb253 from e])));have hb8:Below w.heap.size w w8:=Kw.grown_below hB2.out HG8.out (fun g h => by cases h;exact HW11.out);exact ⟨j+1,x :: m2,s2+x.size,rfl,by omega,by omega,⟨by rw [show (j+1).toNat = j.toNat+1 by omega];exact HMn.out⟩,⟨hs9⟩,⟨by rw [show ((s2+x.size:Nat):Int) = (s2:Int)+(x.size:Int) by omega];exact hy9⟩,⟨hz9⟩,⟨hb8.setCell (p:=⟨gb253,4,none⟩) GYw.out _⟩⟩
    ·have t5:decide (j < (y.f2.length:Int)) = false:=decide_eq_false hjl;have hend:y.f2.drop j.toNat = []:=List.drop_of_length_le (by omega);have HM3:=Lib.hid (show MI l0_0 (textsOf (l0_0.drop (i.toNat+1))) m2 s2 by have:=hMI.out;rwa [hend,List.nil_append] at this);clear hend hMI;go_wp2_with (fail)
     go_roundg ko
     case measure => omega
     case rel => exact ⟨i+1,m2,s2,rfl,by omega,by omega,⟨by rw [show (i+1).toNat = i.toNat+1 by omega];exact HM3.out⟩,⟨hset2.out⟩,⟨hY2.out⟩,⟨hZ2.out⟩,⟨hB2.out⟩⟩
  ·have t4:decide (i < (l0_0.length:Int)) = false:=decide_eq_false hlt;have hend:textsOf (l0_0.drop i.toNat) = []:=by rw [List.drop_of_length_le (by omega)];rfl
   have hs:s = textN l0_0:=by have:=hMI.out.fin;rw [hend] at this;exact this
   subst hs;have c0:wo.cell? ⟨gb253,0,none⟩ = some (.int .i64 0):=(blk_cell hY.out 0).trans rfl;have c1:wo.cell? ⟨gb253,1,none⟩ = some (.int .i64 (l0_0.length:Int)):=(blk_cell hY.out 1).trans rfl;have c2:wo.cell? ⟨gb253,2,none⟩ = some (.int .i64 t251):=(blk_cell hY.out 2).trans rfl;have c3:wo.cell? ⟨gb253,3,none⟩ = some (.int .i64 t252):=(blk_cell hY.out 3).trans rfl;have c4:wo.cell? ⟨gb253,4,none⟩ = some (.int .i64 (textN l0_0:Int)):=(blk_cell hY.out 4).trans rfl;have z0:wo.cell? ⟨gb250,0,none⟩ = some (.int .i64 0):=(blk_cell hZ.out 0).trans rfl;have z1:wo.cell? ⟨gb250,1,none⟩ = some (.int .i64 0):=(blk_cell hZ.out 1).trans rfl;have z2:wo.cell? ⟨gb250,2,none⟩ = some (.int .i64 0):=(blk_cell hZ.out 2).trans rfl;have z3:wo.cell? ⟨gb250,3,none⟩ = some (.int .i64 0):=(blk_cell hZ.out 3).trans rfl;have z4:wo.cell? ⟨gb250,4,none⟩ = some (.int .i64 0):=(blk_cell hZ.out 4).trans rfl;have f0:=blk_frozen hZ.out 0;have f1:=blk_frozen hZ.out 1;have f2:=blk_frozen hZ.out 2;have f3:=blk_frozen hZ.out 3;have f4:=blk_frozen hZ.out 4;go_wp2_with (fail)
   refine bodyPost_ret (results_cell_row rfl _ _ gb250 26 #[.int .i64 0,.int .i64 (l0_0.length:Int),.int .i64 t251,.int .i64 t252,.int .i64 (textN l0_0:Int)] (0,0) _ rfl (blk_put (blk_put (blk_put (blk_put (blk_put hZ.out 0 (.int .i64 0) rfl) 1 (.int .i64 (l0_0.length:Int)) rfl) 2 (.int .i64 t251) rfl) 3 (.int .i64 t252) rfl) 4 (.int .i64 (textN l0_0:Int)) rfl) Tryd.underlying26 rfl (by kernel_rfl)) rfl ?_;exact ⟨rfl,((((hB.out.setCell (p:=⟨gb250,0,none⟩) GZw.out _).setCell (p:=⟨gb250,1,none⟩) GZw.out _).setCell (p:=⟨gb250,2,none⟩) GZw.out _).setCell (p:=⟨gb250,3,none⟩) GZw.out _).setCell (p:=⟨gb250,4,none⟩) GZw.out _⟩
end
def limit_Within.f (a0_0:Int) (a0_1:Int) (a0_2:Int) (a0_3:Int) (a0_4:Int) (a1_0:Int) (a1_1:Int) (a1_2:Int) (a1_3:Int) (a1_4:Int):Option Bool:=some (LimW.wB a0_0 a0_1 a0_2 a0_3 a0_4 a1_0 a1_1 a1_2 a1_3 a1_4)
theorem limit_Within.calls (a0_0:Int) (a0_1:Int) (a0_2:Int) (a0_3:Int) (a0_4:Int) (a1_0:Int) (a1_1:Int) (a1_2:Int) (a1_3:Int) (a1_4:Int) (r:Bool) (w:World) (h:limit_Within.f a0_0 a0_1 a0_2 a0_3 a0_4 a1_0 a1_1 a1_2 a1_3 a1_4 = some r) :
  Calls Tryd.prog 24 #[.agg #[.int .i64 a0_0,.int .i64 a0_1,.int .i64 a0_2,.int .i64 a0_3,.int .i64 a0_4],.agg #[.int .i64 a1_0,.int .i64 a1_1,.int .i64 a1_2,.int .i64 a1_3,.int .i64 a1_4]] w fun e w' => e = .returned (.bool r)∧Below w.heap.size w w':=by
 obtain rfl:=Option.some.inj h;exact LimW.within_calls a0_0 a0_1 a0_2 a0_3 a0_4 a1_0 a1_1 a1_2 a1_3 a1_4 w
def limit_Right.f (a0_0:Int) (a0_1:Int) (a0_2:Int) (a0_3:Int) (a0_4:Int):Option (Bool):=(limit_Within.f a0_0 a0_1 a0_2 a0_3 a0_4 16777216 16777216 16777216 16777216 16777216).bind fun t250 => (if t250 = true then ((limit_Within.f 0 0 0 0 0 a0_0 a0_1 a0_2 a0_3 a0_4).bind fun t251 => (some t251)) else (some false))
set_option maxHeartbeats 8000000 in
set_option maxRecDepth 100000 in
theorem limit_Right.calls (a0_0:Int) (a0_1:Int) (a0_2:Int) (a0_3:Int) (a0_4:Int) (r:Bool) (w:World) (h:limit_Right.f a0_0 a0_1 a0_2 a0_3 a0_4 = some r) :
  Calls Tryd.prog 22 #[.agg #[.int .i64 a0_0,.int .i64 a0_1,.int .i64 a0_2,.int .i64 a0_3,.int .i64 a0_4]] w fun e w' => e = .returned (.bool r)∧Below w.heap.size w w':=by
 have hu26:=Tryd.underlying26;have HB:=AM (Below.refl w.heap.size w);have H:((limit_Within.f a0_0 a0_1 a0_2 a0_3 a0_4 16777216 16777216 16777216 16777216 16777216).bind fun t250 => (if t250 = true then ((limit_Within.f 0 0 0 0 0 a0_0 a0_1 a0_2 a0_3 a0_4).bind fun t251 => (some t251)) else (some false))) = some r:=h;clear h;replace H:=Option.bind_eq_some_iff.mp H;obtain ⟨t250,A20,H⟩:=H;replace H:(if t250 = true then ((limit_Within.f 0 0 0 0 0 a0_0 a0_1 a0_2 a0_3 a0_4).bind fun t251 => (some t251)) else (some false)) = some r:=H;have A2:=AM A20;clear A20;by_cases c3:t250 = true
 ·subst c3;have H1:((limit_Within.f 0 0 0 0 0 a0_0 a0_1 a0_2 a0_3 a0_4).bind fun t251 => (some t251)) = some r:=by rw [if_pos rfl] at H;exact H
  clear H;have H:=H1;clear H1;replace H:=Option.bind_eq_some_iff.mp H;obtain ⟨t251,A40,H⟩:=H;replace H:(some t251) = some r:=H;have A4:=AM A40;clear A40;obtain rfl:=Option.some.inj H;go_enter Tryd.func22,Tryd.ntmps22;go_wp2_with (first | ((with_reducible refine gate_dst (N:=1) rfl ?_);refine box_event ?hg (N:=1) ?hd (cs:=#[.int .i64 a0_0,.int .i64 a0_1,.int .i64 a0_2,.int .i64 a0_3,.int .i64 a0_4]) (t:=26) ?hr ?_;(case hd => rfl);(case hg => rfl);(case hr => first | (go_simp;done) | (go_simp;rfl));intro gb249 hg w5 hbox hb;have BK249:=AM (hbox);have GW249:=GW HB hg;have GE249:=GW HB hg;replace HB:=BS HB hb;clear hb hbox hg;have hcz6_0:=BC BK249 0 (.int .i64 a0_0) rfl;have hcz6_1:=BC BK249 1 (.int .i64 a0_1) rfl;have hcz6_2:=BC BK249 2 (.int .i64 a0_2) rfl;have hcz6_3:=BC BK249 3 (.int .i64 a0_3) rfl;have hcz6_4:=BC BK249 4 (.int .i64 a0_4) rfl;have hfz6_0:=BF BK249 0;have hfz6_1:=BF BK249 1;have hfz6_2:=BF BK249 2;have hfz6_3:=BF BK249 3;have hfz6_4:=BF BK249 4) | ((with_reducible refine gate_callee (f:=24) rfl ?_);refine goesM_ (some 5) rfl rfl Tryd.func24 #[.agg #[.int .i64 a0_0,.int .i64 a0_1,.int .i64 a0_2,.int .i64 a0_3,.int .i64 a0_4],.agg #[.int .i64 16777216,.int .i64 16777216,.int .i64 16777216,.int .i64 16777216,.int .i64 16777216]] rfl ?_;(with_reducible refine (limit_Within.calls a0_0 a0_1 a0_2 a0_3 a0_4 16777216 16777216 16777216 16777216 16777216 true _ A2.out).mono ?_);rintro e w7 ⟨rfl,hb⟩;refine ⟨_,rfl,?_⟩;replace BK249:=BE BK249 hb;replace HB:=BS HB hb;(try clear hb);(try clear hb2);(try clear hk);(try clear hi);have hcz8_0:=BC BK249 0 (.int .i64 a0_0) rfl;have hcz8_1:=BC BK249 1 (.int .i64 a0_1) rfl;have hcz8_2:=BC BK249 2 (.int .i64 a0_2) rfl;have hcz8_3:=BC BK249 3 (.int .i64 a0_3) rfl;have hcz8_4:=BC BK249 4 (.int .i64 a0_4) rfl;have hfz8_0:=BF BK249 0;have hfz8_1:=BF BK249 1;have hfz8_2:=BF BK249 2;have hfz8_3:=BF BK249 3;have hfz8_4:=BF BK249 4) | (go_at_call 24;(with_reducible refine (limit_Within.calls 0 0 0 0 0 a0_0 a0_1 a0_2 a0_3 a0_4 t251 _ A4.out).mono ?_);rintro e w9 ⟨rfl,hb⟩;replace BK249:=BE BK249 hb;replace HB:=BS HB hb;(try clear hb);(try clear hb2);(try clear hk);(try clear hi)))
  go_ret;exact RT (BB HB)
 ·replace c3:=Bool.eq_false_iff.mpr c3;subst c3;have H1:(some false) = some r:=by rw [if_neg (show ¬ (false = true) by decide)] at H;exact H
  clear H;have H:=H1;clear H1;obtain rfl:=Option.some.inj H;go_enter Tryd.func22,Tryd.ntmps22;go_wp2_with (first | ((with_reducible refine gate_dst (N:=1) rfl ?_);refine box_event ?hg (N:=1) ?hd (cs:=#[.int .i64 a0_0,.int .i64 a0_1,.int .i64 a0_2,.int .i64 a0_3,.int .i64 a0_4]) (t:=26) ?hr ?_;(case hd => rfl);(case hg => rfl);(case hr => first | (go_simp;done) | (go_simp;rfl));intro gb249 hg w10 hbox hb;have BK249:=AM (hbox);have GW249:=GW HB hg;have GE249:=GW HB hg;replace HB:=BS HB hb;clear hb hbox hg;have hcz11_0:=BC BK249 0 (.int .i64 a0_0) rfl;have hcz11_1:=BC BK249 1 (.int .i64 a0_1) rfl;have hcz11_2:=BC BK249 2 (.int .i64 a0_2) rfl;have hcz11_3:=BC BK249 3 (.int .i64 a0_3) rfl;have hcz11_4:=BC BK249 4 (.int .i64 a0_4) rfl;have hfz11_0:=BF BK249 0;have hfz11_1:=BF BK249 1;have hfz11_2:=BF BK249 2;have hfz11_3:=BF BK249 3;have hfz11_4:=BF BK249 4) | ((with_reducible refine gate_callee (f:=24) rfl ?_);refine goesM_ (some 5) rfl rfl Tryd.func24 #[.agg #[.int .i64 a0_0,.int .i64 a0_1,.int .i64 a0_2,.int .i64 a0_3,.int .i64 a0_4],.agg #[.int .i64 16777216,.int .i64 16777216,.int .i64 16777216,.int .i64 16777216,.int .i64 16777216]] rfl ?_;(with_reducible refine (limit_Within.calls a0_0 a0_1 a0_2 a0_3 a0_4 16777216 16777216 16777216 16777216 16777216 false _ A2.out).mono ?_);rintro e w12 ⟨rfl,hb⟩;refine ⟨_,rfl,?_⟩;replace BK249:=BE BK249 hb;replace HB:=BS HB hb;(try clear hb);(try clear hb2);(try clear hk);(try clear hi)))
  go_ret;exact RT (BB HB)
def schema_find.f (l0:List (S57)) (a1:Int):Option (List Int × Int × Int × Int × Bool):=if a1 < 1 then (some (([]:List Int),0,0,0,false)) else (if a1 ≥ (l0.length:Int) then (some (([]:List Int),0,0,0,false)) else (if 0≤a1 then (if a1 < (l0.length:Int) then (some ((rd_T57 l0 a1).f0,(rd_T57 l0 a1).f1,(rd_T57 l0 a1).f2,(rd_T57 l0 a1).f3,true)) else (none)) else (none)))
set_option maxHeartbeats 8000000 in
set_option maxRecDepth 100000 in
theorem schema_find.calls (P0_:Nat→Prop) (A0:Option Addr) (c0:Nat) (l0:List (S57)) (a1:Int) (r1:List Int) (r2:Int) (r3:Int) (r4:Int) (r5:Bool) (w:World) (hs0:Kd.V k57 57 w w.heap.size (fun k_ => P0_ k_) (.slice A0 l0.length c0) l0) (h:schema_find.f l0 a1 = some (r1,r2,r3,r4,r5)) :
  Calls Tryd.prog 70 #[.slice A0 l0.length c0,.int .i64 a1] w fun e w' => ∃ v0_:Value,e = .returned (.tuple #[.agg #[v0_,.int .i64 r2,.int .i64 r3,.int .i64 r4],.bool r5])∧Kd.V (Kd.int .i64) 3 w' w.heap.size (fun k_ => (P0_ k_ ∨ w.heap.size≤k_)) v0_ r1∧Below w.heap.size w w':=by
 have hu57:=Tryd.underlying57;have HO0:=AM (show Kd.V k57 57 w w.heap.size (fun k_ => (P0_ k_ ∨ w.heap.size≤k_)) (.slice A0 l0.length c0) l0 from Kd.V_mono hs0 (fun k_ hk => .inl hk));have HB:=AM (Below.refl w.heap.size w);have H:(if a1 < 1 then (some (([]:List Int),0,0,0,false)) else (if a1 ≥ (l0.length:Int) then (some (([]:List Int),0,0,0,false)) else (if 0≤a1 then (if a1 < (l0.length:Int) then (some ((rd_T57 l0 a1).f0,(rd_T57 l0 a1).f1,(rd_T57 l0 a1).f2,(rd_T57 l0 a1).f3,true)) else (none)) else (none)))) = some (r1,r2,r3,r4,r5):=h;clear h;by_cases c3:a1 < 1
 ·rw [if_pos c3] at H;have c3b0:decide (a1 < 1) = true:=decide_eq_true c3;clear c3;simp only [Option.some.injEq,Prod.mk.injEq] at H;obtain ⟨rfl,rfl,rfl,rfl,rfl⟩:=H;go_enter Tryd.func70,Tryd.ntmps70;go_wp2_with (first | ((with_reducible refine gate_dst (N:=4) rfl ?_);refine box_event ?hg (N:=4) ?hd (cs:=#[.slice none 0 0,.int .i64 0,.int .i64 0,.int .i64 0]) (t:=57) ?hr ?_;(case hd => rfl);(case hg => rfl);(case hr => first | (go_simp;done) | (go_simp;rfl));intro gb252 hg w4 hbox hb;replace HO0:=AM (Kd.V_below (Kd.V_elderB (by (with_reducible repeat (first | apply Kd.V_alloc | apply Kd.V_drewN | apply Kd.V_drew));exact HO0.out) gb252 (Nat.le_of_eq hg.symm)) hb);have BK252:=AM (hbox);have GW252:=GW HB hg;have GE252:=GW HB hg;replace HB:=BS HB hb;clear hb hbox hg;have hcz5_0:=BC BK252 0 (.slice none 0 0) rfl;have hcz5_1:=BC BK252 1 (.int .i64 0) rfl;have hcz5_2:=BC BK252 2 (.int .i64 0) rfl;have hcz5_3:=BC BK252 3 (.int .i64 0) rfl;have hfz5_0:=BF BK252 0;have hfz5_1:=BF BK252 1;have hfz5_2:=BF BK252 2;have hfz5_3:=BF BK252 3))
  refine bodyPost_ret (results_ct rfl _ _ gb252 57 #[.slice none 0 0,.int .i64 0,.int .i64 0,.int .i64 0] (0,0) _ rfl (by refine blk_put (cs:=#[.slice none 0 0,.int .i64 0,.int .i64 0,.int .i64 0]) ?_ 3 _ rfl;refine blk_put (cs:=#[.slice none 0 0,.int .i64 0,.int .i64 0,.int .i64 0]) ?_ 2 _ rfl;refine blk_put (cs:=#[.slice none 0 0,.int .i64 0,.int .i64 0,.int .i64 0]) ?_ 1 _ rfl;refine blk_put (cs:=#[.slice none 0 0,.int .i64 0,.int .i64 0,.int .i64 0]) ?_ 0 _ rfl;exact BL BK252) Tryd.underlying57 rfl (by kernel_rfl)) rfl ?_;exact ⟨_,by first | rfl | (simp [errW_none,errW_some] <;> rfl) | (simp [*,errW_none,errW_some] <;> rfl),Kd.V_nil _ _ _ _ _,BB HB⟩
 ·rw [if_neg c3] at H;have c3b0:decide (a1 < 1) = false:=decide_eq_false c3;clear c3;by_cases c6:a1 ≥ (l0.length:Int)
  ·rw [if_pos c6] at H;have c6b0:decide ((l0.length:Int)≤a1) = true:=decide_eq_true c6;clear c6;simp only [Option.some.injEq,Prod.mk.injEq] at H;obtain ⟨rfl,rfl,rfl,rfl,rfl⟩:=H;go_enter Tryd.func70,Tryd.ntmps70;go_wp2_with (first | ((with_reducible refine gate_dst (N:=4) rfl ?_);refine box_event ?hg (N:=4) ?hd (cs:=#[.slice none 0 0,.int .i64 0,.int .i64 0,.int .i64 0]) (t:=57) ?hr ?_;(case hd => rfl);(case hg => rfl);(case hr => first | (go_simp;done) | (go_simp;rfl));intro gb252 hg w7 hbox hb;replace HO0:=AM (Kd.V_below (Kd.V_elderB (by (with_reducible repeat (first | apply Kd.V_alloc | apply Kd.V_drewN | apply Kd.V_drew));exact HO0.out) gb252 (Nat.le_of_eq hg.symm)) hb);have BK252:=AM (hbox);have GW252:=GW HB hg;have GE252:=GW HB hg;replace HB:=BS HB hb;clear hb hbox hg;have hcz8_0:=BC BK252 0 (.slice none 0 0) rfl;have hcz8_1:=BC BK252 1 (.int .i64 0) rfl;have hcz8_2:=BC BK252 2 (.int .i64 0) rfl;have hcz8_3:=BC BK252 3 (.int .i64 0) rfl;have hfz8_0:=BF BK252 0;have hfz8_1:=BF BK252 1;have hfz8_2:=BF BK252 2;have hfz8_3:=BF BK252 3))
   refine bodyPost_ret (results_ct rfl _ _ gb252 57 #[.slice none 0 0,.int .i64 0,.int .i64 0,.int .i64 0] (0,0) _ rfl (by refine blk_put (cs:=#[.slice none 0 0,.int .i64 0,.int .i64 0,.int .i64 0]) ?_ 3 _ rfl;refine blk_put (cs:=#[.slice none 0 0,.int .i64 0,.int .i64 0,.int .i64 0]) ?_ 2 _ rfl;refine blk_put (cs:=#[.slice none 0 0,.int .i64 0,.int .i64 0,.int .i64 0]) ?_ 1 _ rfl;refine blk_put (cs:=#[.slice none 0 0,.int .i64 0,.int .i64 0,.int .i64 0]) ?_ 0 _ rfl;exact BL BK252) Tryd.underlying57 rfl (by kernel_rfl)) rfl ?_;exact ⟨_,by first | rfl | (simp [errW_none,errW_some] <;> rfl) | (simp [*,errW_none,errW_some] <;> rfl),Kd.V_nil _ _ _ _ _,BB HB⟩
  ·rw [if_neg c6] at H;have c6b0:decide ((l0.length:Int)≤a1) = false:=decide_eq_false c6;clear c6;by_cases c9:0≤a1
   ·rw [if_pos c9] at H;have c9b0:decide (0≤a1) = true:=decide_eq_true c9;clear c9;by_cases c10:a1 < (l0.length:Int)
    ·rw [if_pos c10] at H;have c10b0:decide (a1 < (l0.length:Int)) = true:=decide_eq_true c10;clear c10;simp only [Option.some.injEq,Prod.mk.injEq] at H;obtain ⟨rfl,rfl,rfl,rfl,rfl⟩:=H;go_enter Tryd.func70,Tryd.ntmps70;go_wp2_with (first | ((with_reducible refine gate_dst (N:=4) rfl ?_);refine box_event ?hg (N:=4) ?hd (cs:=#[.slice none 0 0,.int .i64 0,.int .i64 0,.int .i64 0]) (t:=57) ?hr ?_;(case hd => rfl);(case hg => rfl);(case hr => first | (go_simp;done) | (go_simp;rfl));intro gb252 hg w11 hbox hb;replace HO0:=AM (Kd.V_below (Kd.V_elderB (by (with_reducible repeat (first | apply Kd.V_alloc | apply Kd.V_drewN | apply Kd.V_drew));exact HO0.out) gb252 (Nat.le_of_eq hg.symm)) hb);have BK252:=AM (hbox);have GW252:=GW HB hg;have GE252:=GW HB hg;replace HB:=BS HB hb;clear hb hbox hg;have p253:0≤(a1:Int):=OD;have q253:a1 < (l0.length:Int):=OD;obtain ⟨ad253,A253_0,c253_0,e253,hx253_0,hx253_1,hx253_2,hx253_3,hl253_0,hi253_0⟩:=at_T57 (Kd.V_reads' HO0.out).2.2 a1 p253 q253;cases e253;obtain ⟨ce253,hce253,hMe253,hcc253⟩:=Kd.V_get HO0.out z57 a1 p253 (by first | exact q253 | exact OD | (have e_:=(Kd.V_reads' HO0.out).1;omega));obtain ⟨ua253_0,uc253_0,rfl,ul253_0,ge253_0⟩:=k57_openF hMe253;have hv253_0:=hcc253 0 _ rfl;rw [Nat.add_zero] at hv253_0;replace hv253_0:=Option.some.inj (hv253_0.symm.trans hx253_0);injection hv253_0 with hva_ hvn_ hvc_;rw [hva_] at ge253_0;rw [hvc_] at ul253_0;have HL253_0:=AM (show Kd.V (Kd.int .i64) 3 _ w.heap.size _ _ ((rd_T57 l0 a1).f0) from Kd.V_mk ul253_0 ge253_0);clear hva_ hvn_ hvc_ ge253_0 ul253_0;clear hcc253 hce253;have HR253_0:=AM hi253_0;have HC253_0:=AM hl253_0;clear hi253_0 hl253_0;replace p253:=eq_true p253;replace q253:=eq_true q253;have hcz12_0:=BC BK252 0 (.slice none 0 0) rfl;have hcz12_1:=BC BK252 1 (.int .i64 0) rfl;have hcz12_2:=BC BK252 2 (.int .i64 0) rfl;have hcz12_3:=BC BK252 3 (.int .i64 0) rfl;have hfz12_0:=BF BK252 0;have hfz12_1:=BF BK252 1;have hfz12_2:=BF BK252 2;have hfz12_3:=BF BK252 3))
     refine bodyPost_ret (results_ct rfl _ _ gb252 57 #[.slice A253_0 ((rd_T57 l0 a1).f0).length c253_0,.int .i64 ((rd_T57 l0 a1).f1),.int .i64 ((rd_T57 l0 a1).f2),.int .i64 ((rd_T57 l0 a1).f3)] (0,0) _ rfl (by refine blk_put (cs:=#[.slice A253_0 ((rd_T57 l0 a1).f0).length c253_0,.int .i64 ((rd_T57 l0 a1).f1),.int .i64 ((rd_T57 l0 a1).f2),.int .i64 0]) ?_ 3 _ rfl;refine blk_put (cs:=#[.slice A253_0 ((rd_T57 l0 a1).f0).length c253_0,.int .i64 ((rd_T57 l0 a1).f1),.int .i64 0,.int .i64 0]) ?_ 2 _ rfl;refine blk_put (cs:=#[.slice A253_0 ((rd_T57 l0 a1).f0).length c253_0,.int .i64 0,.int .i64 0,.int .i64 0]) ?_ 1 _ rfl;refine blk_put (cs:=#[.slice none 0 0,.int .i64 0,.int .i64 0,.int .i64 0]) ?_ 0 _ rfl;exact BL BK252) Tryd.underlying57 rfl (by kernel_rfl)) rfl ?_;exact ⟨_,by first | rfl | (simp [errW_none,errW_some] <;> rfl) | (simp [*,errW_none,errW_some] <;> rfl),by (with_reducible repeat (first | apply Kd.V_alloc | apply Kd.V_drewN | apply Kd.V_drew));exact Kd.V_mono (Kd.V_far (p:=⟨gb252,3,none⟩) (Kd.V_far (p:=⟨gb252,2,none⟩) (Kd.V_far (p:=⟨gb252,1,none⟩) (Kd.V_far (p:=⟨gb252,0,none⟩) (Kd.V_mono HL253_0.out (fun k_ hk => (⟨hk,hk.2⟩:_∧k_≠gb252))) (fun _ hk => hk.2) (.slice A253_0 ((rd_T57 l0 a1).f0).length c253_0)) (fun _ hk => hk.2) (.int .i64 ((rd_T57 l0 a1).f1))) (fun _ hk => hk.2) (.int .i64 ((rd_T57 l0 a1).f2))) (fun _ hk => hk.2) (.int .i64 ((rd_T57 l0 a1).f3))) (fun _ hk => hk.1.1),BB HB⟩
    ·rw [if_neg c10] at H;exact absurd H (by simp)
   ·rw [if_neg c9] at H;exact absurd H (by simp)
def bits_Mul32.f (a0:Int) (a1:Int):Option (Int × Int):=some (((IntKind.u64.wrap ((IntKind.u64.wrap (a0)) * (IntKind.u64.wrap (a1)))) / 4294967296) % 4294967296,(IntKind.u64.wrap ((IntKind.u64.wrap (a0)) * (IntKind.u64.wrap (a1)))) % 4294967296)
def bits_Mul64.f (a0:Int) (a1:Int):Option (Int × Int):=some (IntKind.u64.wrap ((IntKind.u64.wrap ((IntKind.u64.wrap ((a0 / 4294967296) * (a1 / 4294967296)))+((IntKind.u64.wrap ((IntKind.u64.wrap ((a0 / 4294967296) * (Go.bits .and .u64 a1 4294967295)))+((IntKind.u64.wrap ((Go.bits .and .u64 a0 4294967295) * (Go.bits .and .u64 a1 4294967295))) / 4294967296))) / 4294967296)))+((IntKind.u64.wrap ((Go.bits .and .u64 (IntKind.u64.wrap ((IntKind.u64.wrap ((a0 / 4294967296) * (Go.bits .and .u64 a1 4294967295)))+((IntKind.u64.wrap ((Go.bits .and .u64 a0 4294967295) * (Go.bits .and .u64 a1 4294967295))) / 4294967296))) 4294967295)+(IntKind.u64.wrap ((Go.bits .and .u64 a0 4294967295) * (a1 / 4294967296))))) / 4294967296)),IntKind.u64.wrap (a0 * a1))
set_option maxHeartbeats 8000000 in
set_option maxRecDepth 100000 in
theorem bits_Mul64.calls (a0:Int) (a1:Int) (r1:Int) (r2:Int) (w:World) (h:bits_Mul64.f a0 a1 = some (r1,r2)) :
  Calls Tryd.prog 100 #[.int .u64 a0,.int .u64 a1] w fun e w' => e = .returned (.tuple #[.int .u64 r1,.int .u64 r2])∧Drawn0 w w':=by
 have H:(some (IntKind.u64.wrap ((IntKind.u64.wrap ((IntKind.u64.wrap ((a0 / 4294967296) * (a1 / 4294967296)))+((IntKind.u64.wrap ((IntKind.u64.wrap ((a0 / 4294967296) * (Go.bits .and .u64 a1 4294967295)))+((IntKind.u64.wrap ((Go.bits .and .u64 a0 4294967295) * (Go.bits .and .u64 a1 4294967295))) / 4294967296))) / 4294967296)))+((IntKind.u64.wrap ((Go.bits .and .u64 (IntKind.u64.wrap ((IntKind.u64.wrap ((a0 / 4294967296) * (Go.bits .and .u64 a1 4294967295)))+((IntKind.u64.wrap ((Go.bits .and .u64 a0 4294967295) * (Go.bits .and .u64 a1 4294967295))) / 4294967296))) 4294967295)+(IntKind.u64.wrap ((Go.bits .and .u64 a0 4294967295) * (a1 / 4294967296))))) / 4294967296)),IntKind.u64.wrap (a0 * a1))) = some (r1,r2):=h;clear h;simp only [Option.some.injEq,Prod.mk.injEq] at H;obtain ⟨rfl,rfl⟩:=H;go_enter Tryd.func100,Tryd.ntmps100;go_wp2
 go_ret2
 exact ⟨by first | rfl | (simp;done) | (simp [*];done),by repeat (first | exact Drawn0.refl _ | apply Drawn0.step)⟩
def bits_Mul.f (a0:Int) (a1:Int):Option (Int × Int):=(bits_Mul64.f a0 a1).bind fun bt254 => (some (bt254.1,bt254.2))
set_option maxHeartbeats 8000000 in
set_option maxRecDepth 100000 in
theorem bits_Mul.calls (a0:Int) (a1:Int) (r1:Int) (r2:Int) (w:World) (h:bits_Mul.f a0 a1 = some (r1,r2)) :
  Calls Tryd.prog 96 #[.int .u64 a0,.int .u64 a1] w fun e w' => e = .returned (.tuple #[.int .u64 r1,.int .u64 r2])∧Drawn0 w w':=by
 have H:((bits_Mul64.f a0 a1).bind fun bt254 => (some (bt254.1,bt254.2))) = some (r1,r2):=h;clear h;replace H:=Option.bind_eq_some_iff.mp H;obtain ⟨⟨t254,t255⟩,A30,H⟩:=H;replace H:(some (t254,t255)) = some (r1,r2):=H;have A3:=AM A30;clear A30;simp only [Option.some.injEq,Prod.mk.injEq] at H;obtain ⟨rfl,rfl⟩:=H;go_enter Tryd.func96,Tryd.ntmps96;go_wp2_with (first | ((with_reducible refine gate_callee (f:=100) rfl ?_);refine goesM_ (some 25) rfl rfl Tryd.func100 #[.int .u64 a0,.int .u64 a1] rfl ?_;(with_reducible refine (bits_Mul64.calls a0 a1 t254 t255 _ A3.out).mono ?_);rintro e w' ⟨rfl,⟨nd,rfl⟩⟩;refine ⟨_,rfl,?_⟩))
 go_ret2
 exact ⟨by first | rfl | (simp;done) | (simp [*];done),by repeat (first | exact Drawn0.refl _ | apply Drawn0.step)⟩
end Go.Proofs.YtcphcaiiofeflaaDoor.GO
