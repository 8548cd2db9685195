/- Texts of the claim, one behind the other. -/
import Derived.Test.YtoigkneoaemcfaaDoorNoNdGet
import Derived.Test.YtoigkneoaemcfaaDoorNoNdSm
namespace Go.Proofs.YtoigkneoaemcfaaDoor.Nd
open Go.RowKit Go.Lib Go.Proofs.YtoigkneoaemcfaaDoorW.PrintWords Go.Proofs.YtoigkneoaemcfaaDoorW.PrintLast Go.Proofs.YtoigkneoaemcfaaDoorW.PrintMore Go.Proofs.YtoigkneoaemcfaaDoor.B Go.Proofs.YtoigkneoaemcfaaDoor.Bd Go.Proofs.YtoigkneoaemcfaaDoor.Tab Go.Proofs.YtoigkneoaemcfaaDoor.Rec
open Go.Proofs.YtoigkneoaemcfaaDoor.GN (S40 rd_T40 k40 kidsI checkP cl H)
set_option linter.unusedVariables false
set_option linter.unusedSimpArgs false
theorem same_calls (A0:Option Addr) (c0:Nat) (A1:Option Addr) (c1:Nat) (l:List (S40)) (r:Int) (w:World) (h0:Kd.C k40 w A0 l.length l) (hc0:l.length≤c0) (h1:Kd.C k40 w A1 l.length l) (hc1:l.length≤c1) (hn:l.length≤1000000) (hE:kidN l≤1000000) (hf:∀ y ∈ l,Fit y.f1 y.f2 y.f3) :
    Calls Tryd.prog 29 #[.agg #[.slice A0 l.length c0,.int .i64 r],.agg #[.slice A1 l.length c1,.int .i64 r]] w fun e w' => e = .returned (.bool true)∧Below w.heap.size w w':=by
  have h:=same9_calls A0 c0 l r A1 c1 l r w h0 h1 hn hf
  rwa [show sm9 l r l r = true from decide_eq_true ⟨rfl,rfl⟩] at h
def sA:ByteArray:=⟨#[97]⟩
def aN:List (S40):=[⟨4,[1],[sA],[]⟩]
def aT:ByteArray:=⟨#[1,1,97]⟩
def aB:ByteArray:=⟨#[1,4,2,0,0]⟩
def aZ:ByteArray:=⟨#[0]⟩
theorem aw_put:putN aN 0 = (aT,aB,0):=by decide +kernel
theorem aw_ok:putNE aN 0 = 0:=by decide +kernel
theorem aw_dep:depD aN 0 = 1:=by decide +kernel
theorem aw_txs:txs aN = [sA]:=rfl
theorem aw_tab:tabOf [] (txs aN) = [sA]:=by decide +kernel
theorem aw_end:(endN (runN aZ (getE badS aT 16777216 1).2 1 0).1).e = 13:=by decide +kernel
theorem aw_err:(getN aT aZ 0 1 0 1 1 (rB 0 1 0 1 1)).2.2 = 13:=by decide +kernel
theorem aw_rB:rB 0 1 0 1 1 = true:=by decide
theorem aw_fit:∀ y ∈ aN,Fit y.f1 y.f2 y.f3:=fun y hy => by
  obtain rfl:y = ⟨4,[1],[sA],[]⟩:=List.mem_singleton.1 hy
  exact ⟨by decide,by decide,by decide,by decide⟩
theorem aw_num:∀ y ∈ aN,I64 y.f1∧I64 y.f3:=fun y hy => by
  obtain rfl:y = ⟨4,[1],[sA],[]⟩:=List.mem_singleton.1 hy
  exact ⟨fun x hx => (by rw [List.mem_singleton.1 hx];omega),fun x hx => (by cases hx)⟩
theorem aw_big:Big aN:=⟨by decide,by decide,aw_fit,aw_num,by decide,by decide⟩
theorem aw_back:Back aN 0:=⟨aw_ok,by decide,by decide,by decide,by decide,fun n hn => (aw_num n hn).1,by rw [aw_tab];decide,fun s hs => by
  rw [aw_txs] at hs
  rw [List.mem_singleton.1 hs]
  decide⟩
theorem aw_run:getE badS aT 16777216 1 = (0,[sA])∧(runN aB [sA] 1 0).2 = aN:=by
  rcases aw_back.run aw_put (l1:=1) (l2:=0) (l4:=1) (by decide) (by decide) with ⟨h5,_⟩ | ⟨_,hE,⟨h5,_⟩ | ⟨_,_,hr,_,_⟩⟩
  · rw [aw_tab] at h5;exact absurd h5 (by decide)
  · exact absurd h5 (by decide)
  · rw [aw_tab] at hE hr
    exact ⟨hE,by rw [hr]⟩
theorem aw_got:getN aT aB 0 1 0 1 1 (rB 0 1 0 1 1) = (aN,0,0):=by
  rw [aw_rB]
  exact aw_back.got aw_put (by decide) (by decide) (by rw [aw_dep];decide) (by rw [aw_tab];decide)
set_option maxHeartbeats 8000000 in
set_option maxRecDepth 100000 in
theorem awake_calls (w:World) (ht:∀ w',Below w.heap.size w w'→Lib.Utf8Tabs 0 1 w') :
    Calls Tryd.prog 10 #[] w fun e w' => e = .returned (.bool true)∧Below w.heap.size w w':=by
  have HT:=Lib.hid ht
  clear ht
  go_enter Tryd.func10,Tryd.ntmps10
  go_upto_region 2 with (fail)
  have z1:(w.alloc (.cells #[.int .i64 1] 2)).heap.size = w.heap.size+1:=by simp
  have z2:((w.alloc (.cells #[.int .i64 1] 2)).alloc (.cells #[.string ⟨#[97]⟩] 9)).heap.size = w.heap.size+1+1:=by simp
  have z3:(((w.alloc (.cells #[.int .i64 1] 2)).alloc (.cells #[.string ⟨#[97]⟩] 9)).alloc (.cells #[.int .i64 4,.slice (some ⟨w.heap.size,0,none⟩) 1 1,.slice (some ⟨w.heap.size+1,0,none⟩) 1 1,.slice none 0 0] 40)).heap.size = w.heap.size+1+1+1:=by simp
  have b1:=heap_alloc_new w (.cells #[.int .i64 1] 2)
  have b2:=heap_alloc_new (w.alloc (.cells #[.int .i64 1] 2)) (.cells #[.string ⟨#[97]⟩] 9)
  have b3:=heap_alloc_new ((w.alloc (.cells #[.int .i64 1] 2)).alloc (.cells #[.string ⟨#[97]⟩] 9)) (.cells #[.int .i64 4,.slice (some ⟨w.heap.size,0,none⟩) 1 1,.slice (some ⟨w.heap.size+1,0,none⟩) 1 1,.slice none 0 0] 40)
  have b4:=heap_alloc_new (((w.alloc (.cells #[.int .i64 1] 2)).alloc (.cells #[.string ⟨#[97]⟩] 9)).alloc (.cells #[.int .i64 4,.slice (some ⟨w.heap.size,0,none⟩) 1 1,.slice (some ⟨w.heap.size+1,0,none⟩) 1 1,.slice none 0 0] 40)) (.cells #[.slice (some ⟨w.heap.size+1+1,0,none⟩) 1 1,.int .i64 0] 27)
  rw [z1] at b2
  rw [z2] at b3
  rw [z3] at b4
  have b1:=blk_alloc (blk_alloc (blk_alloc b1 (.cells #[.string ⟨#[97]⟩] 9)) (.cells #[.int .i64 4,.slice (some ⟨w.heap.size,0,none⟩) 1 1,.slice (some ⟨w.heap.size+1,0,none⟩) 1 1,.slice none 0 0] 40)) (.cells #[.slice (some ⟨w.heap.size+1+1,0,none⟩) 1 1,.int .i64 0] 27)
  have b2:=blk_alloc (blk_alloc b2 (.cells #[.int .i64 4,.slice (some ⟨w.heap.size,0,none⟩) 1 1,.slice (some ⟨w.heap.size+1,0,none⟩) 1 1,.slice none 0 0] 40)) (.cells #[.slice (some ⟨w.heap.size+1+1,0,none⟩) 1 1,.int .i64 0] 27)
  have b3:=blk_alloc b3 (.cells #[.slice (some ⟨w.heap.size+1+1,0,none⟩) 1 1,.int .i64 0] 27)
  have hb:Below w.heap.size w ((((w.alloc (.cells #[.int .i64 1] 2)).alloc (.cells #[.string ⟨#[97]⟩] 9)).alloc (.cells #[.int .i64 4,.slice (some ⟨w.heap.size,0,none⟩) 1 1,.slice (some ⟨w.heap.size+1,0,none⟩) 1 1,.slice none 0 0] 40)).alloc (.cells #[.slice (some ⟨w.heap.size+1+1,0,none⟩) 1 1,.int .i64 0] 27)):=((((Below.refl _ w).alloc (Nat.le_refl _) _).alloc (by simp) _).alloc (by simp;omega) _).alloc (by simp;omega) _
  clear z1 z2 z3
  generalize (((w.alloc (.cells #[.int .i64 1] 2)).alloc (.cells #[.string ⟨#[97]⟩] 9)).alloc (.cells #[.int .i64 4,.slice (some ⟨w.heap.size,0,none⟩) 1 1,.slice (some ⟨w.heap.size+1,0,none⟩) 1 1,.slice none 0 0] 40)).alloc (.cells #[.slice (some ⟨w.heap.size+1+1,0,none⟩) 1 1,.int .i64 0] 27) = w4 at *
  have hR:Kd.R k40 40 w4 w.heap.size (fun _ => True) (.slice (some ⟨w.heap.size+1+1,0,none⟩) 1 1) aN :=
    R_nodes (P:=[⟨⟨4,[1],[sA],[]⟩,.slice (some ⟨w.heap.size,0,none⟩) 1 1,.slice (some ⟨w.heap.size+1,0,none⟩) 1 1,.slice none 0 0⟩]) (row_lit (n:=1) (by omega) b3 rfl (by decide) (by decide)) (fun x hx => by
      obtain rfl:=List.mem_singleton.1 hx
      exact ⟨row_lit (n:=1) (Nat.le_refl _) b1 rfl (by decide) (by decide),row_lit (n:=1) (by omega) b2 rfl (by decide) (by decide),World.ownsRow_nil _ _ _ _⟩)
  have X4:Hid (SB w4 (w.heap.size+1+1+1) (some ⟨w.heap.size+1+1,0,none⟩) 1 1 0):=Lib.hid b4
  have D4:=Lib.hid hb
  obtain ⟨_,_,hv4,_,hC4⟩:=Kd.R_reads hR
  cases hv4
  have C4:=Lib.hid hC4
  obtain ⟨x0,x1⟩:=X4.out.cells
  clear b1 b2 b3 b4 hb hR hC4
  go_wp2_with (fail)
  refine (nput_calls (some ⟨w.heap.size+1+1,0,none⟩) 1 aN 0 w4 (fun w' hb => HT.out w' (below_step D4.out hb)) C4.out (by decide) aw_big).mono ?_
  rw [aw_put]
  rintro e w5 ⟨rfl,hb5⟩
  have D5:=Lib.hid (below_step D4.out hb5)
  have X5:=Lib.hid (X4.out.below hb5)
  have C5:=Lib.hid (Kd.C_below C4.out hb5)
  clear hb5 D4 X4 C4 x0 x1
  go_upto_region 4 with (fail)
  have hL:=heap_alloc_new w5 (.cells #[.int .i64 0,.int .i64 1,.int .i64 0,.int .i64 1,.int .i64 1] 23)
  have hb6:Below w5.heap.size w5 (w5.alloc (.cells #[.int .i64 0,.int .i64 1,.int .i64 0,.int .i64 1,.int .i64 1] 23)):=(Below.refl _ _).alloc (Nat.le_refl _) _
  generalize w5.alloc (.cells #[.int .i64 0,.int .i64 1,.int .i64 0,.int .i64 1,.int .i64 1] 23) = w6 at hL hb6 ⊢
  have HL6:=Lib.hid hL
  have D6:=Lib.hid (below_step D5.out hb6)
  have X6:=Lib.hid (X5.out.below hb6)
  have C6:=Lib.hid (Kd.C_below C5.out hb6)
  generalize w5.heap.size = n5 at *
  have y0:w6.cell? ⟨n5,0,none⟩ = some (.int .i64 0):=(blk_cell hL 0).trans rfl
  have y1:w6.cell? ⟨n5,1,none⟩ = some (.int .i64 1):=(blk_cell hL 1).trans rfl
  have y2:w6.cell? ⟨n5,2,none⟩ = some (.int .i64 0):=(blk_cell hL 2).trans rfl
  have y3:w6.cell? ⟨n5,3,none⟩ = some (.int .i64 1):=(blk_cell hL 3).trans rfl
  have y4:w6.cell? ⟨n5,4,none⟩ = some (.int .i64 1):=(blk_cell hL 4).trans rfl
  clear hL hb6 D5 X5 C5
  go_wp2_with (fail)
  refine (nget_calls aT aB 0 1 0 1 1 w6 (fun w' hb => HT.out w' (below_step D6.out hb)) (by decide) (by decide) (fun _ _ _ => by rw [aw_run.1];exact aw_run.2.symm ▸ aw_big)).mono ?_
  unfold NGetPost
  rw [aw_got]
  rintro e w7 ⟨v7,rfl,hR7,hb7⟩
  obtain ⟨A7,c7,rfl,hc7,hC7⟩:=Kd.R_reads hR7
  have D7:=Lib.hid (below_step D6.out hb7)
  have X7:=Lib.hid (X6.out.below hb7)
  have C7:=Lib.hid (Kd.C_below C6.out hb7)
  have HL7:=Lib.hid (blk_below HL6.out hb7)
  have Z7:=Lib.hid hC7
  clear hb7 hR7 hC7 D6 X6 C6 HL6 y0 y1 y2 y3 y4
  go_upto_region 5 with (fail)
  obtain ⟨hx,hd⟩:=SB.new w7 A7 aN.length c7 0
  have D8:=Lib.hid (below_step D7.out hd)
  have X8:=Lib.hid (X7.out.below hd)
  have C8:=Lib.hid (Kd.C_below C7.out hd)
  have Z8:=Lib.hid (Kd.C_below Z7.out hd)
  have HL8:=Lib.hid (blk_below HL7.out hd)
  have Y8:=Lib.hid hx
  generalize w7.alloc (.cells #[.slice A7 aN.length c7,.int .i64 0] 27) = w8 at *
  generalize w7.heap.size = n7 at *
  have y0:w8.cell? ⟨n5,0,none⟩ = some (.int .i64 0):=(blk_cell HL8.out 0).trans rfl
  have y1:w8.cell? ⟨n5,1,none⟩ = some (.int .i64 1):=(blk_cell HL8.out 1).trans rfl
  have y2:w8.cell? ⟨n5,2,none⟩ = some (.int .i64 0):=(blk_cell HL8.out 2).trans rfl
  have y3:w8.cell? ⟨n5,3,none⟩ = some (.int .i64 1):=(blk_cell HL8.out 3).trans rfl
  have y4:w8.cell? ⟨n5,4,none⟩ = some (.int .i64 1):=(blk_cell HL8.out 4).trans rfl
  clear hx hd D7 X7 C7 Z7 HL7
  go_wp2_with (fail)
  refine (nget_calls aT aZ 0 1 0 1 1 w8 (fun w' hb => HT.out w' (below_step D8.out hb)) (by decide) (by decide) (fun _ _ h => absurd (h.symm.trans aw_end) (by decide))).mono ?_
  unfold NGetPost
  have HER:=aw_err
  obtain ⟨⟨l9,r9,e9⟩,hg9⟩:∃ z,z = getN aT aZ 0 1 0 1 1 (rB 0 1 0 1 1):=⟨_,rfl⟩
  rw [← hg9] at HER ⊢
  simp only at HER
  subst HER
  clear hg9
  rintro e w9 ⟨v9,rfl,hR9,hb9⟩
  obtain ⟨A9,c9,rfl⟩:=Kd.R_slice hR9
  have D9:=Lib.hid (below_step D8.out hb9)
  have X9:=Lib.hid (X8.out.below hb9)
  have C9:=Lib.hid (Kd.C_below C8.out hb9)
  have Z9:=Lib.hid (Kd.C_below Z8.out hb9)
  have Y9:=Lib.hid (Y8.out.below hb9)
  clear hb9 hR9 D8 X8 C8 Z8 HL8 Y8 y0 y1 y2 y3 y4
  go_upto_region 6 with (fail)
  obtain ⟨_,hd⟩:=SB.new w9 A9 l9.length c9 r9
  have D10:=Lib.hid (below_step D9.out hd)
  have C10:=Lib.hid (Kd.C_below C9.out hd)
  have Z10:=Lib.hid (Kd.C_below Z9.out hd)
  obtain ⟨x0,x1⟩:=(X9.out.below hd).cells
  obtain ⟨y0,y1⟩:=(Y9.out.below hd).cells
  generalize w9.alloc (.cells #[.slice A9 l9.length c9,.int .i64 r9] 27) = w10 at *
  clear hd D9 X9 C9 Z9 Y9
  have ta:(aT.toList == ([1,1,97]:List UInt8)) = true:=by decide +kernel
  have tb:(aB.toList == ([1,4,2,0,0]:List UInt8)) = true:=by decide +kernel
  go_wp2_with (fail)
  refine (same_calls A7 c7 (some ⟨w.heap.size+1+1,0,none⟩) 1 aN 0 w10 Z10.out hc7 C10.out (by decide) (by decide) (by decide) aw_fit).mono ?_
  rintro e w11 ⟨rfl,hb11⟩
  have D11:=Lib.hid (below_step D10.out hb11)
  clear hb11
  go_wp2_with (fail)
  go_ret
  exact ⟨rfl,D11.out⟩
end Go.Proofs.YtoigkneoaemcfaaDoor.Nd
namespace Go.Proofs.YtoigkneoaemcfaaDoor.Nd
open Go.RowKit Go.Lib Go.Proofs.YtoigkneoaemcfaaDoorW.PrintWords Go.Proofs.YtoigkneoaemcfaaDoorW.PrintLast Go.Proofs.YtoigkneoaemcfaaDoorW.PrintMore Go.Proofs.YtoigkneoaemcfaaDoor.B Go.Proofs.YtoigkneoaemcfaaDoor.Bd Go.Proofs.YtoigkneoaemcfaaDoor.Tab Go.Proofs.YtoigkneoaemcfaaDoor.Rec
open Go.Proofs.YtoigkneoaemcfaaDoor.GN (S40 rd_T40 k40 kidsI checkP cl H)
set_option linter.unusedVariables false
set_option linter.unusedSimpArgs false
theorem kid_le:∀ {l:List (S40)} {n:S40},n ∈ l→n.f3.length≤kidN l
  | m :: l,n,h => by
    rw [kidN]
    rcases List.mem_cons.1 h with rfl | h
    · omega
    · have:=kid_le h;omega
theorem txs_bound (a b:Nat):∀ {l:List (S40)},(∀ n ∈ l,n.f2.length≤a∧∀ s ∈ n.f2,s.size≤b)→(txs l).length≤a * l.length∧total (txs l)≤a * b * l.length
  | [],_ => by simp [txs,total]
  | n :: l,h => by
    obtain ⟨h1,h2⟩:=txs_bound a b (l:=l) (fun m hm => h m (List.mem_cons_of_mem _ hm))
    obtain ⟨h3,h4⟩:=h n List.mem_cons_self
    have h5:∀ t:List ByteArray,(∀ s ∈ t,s.size≤b)→total t≤b * t.length:=by
      intro t
      induction t with
      | nil => intro _;simp [total]
      | cons s t ih =>
        intro hs
        have i1:=ih (fun x hx => hs x (List.mem_cons_of_mem _ hx))
        have i2:=hs s List.mem_cons_self
        rw [total_cons,List.length_cons,Nat.mul_succ];omega
    have h6:=h5 n.f2 h4
    have h7:b * n.f2.length≤a * b:=by rw [Nat.mul_comm a b];exact Nat.mul_le_mul_left b h3
    rw [txs_cons,List.length_append,total_append,List.length_cons,Nat.mul_succ,Nat.mul_succ]
    omega
theorem Got.big {tx b:ByteArray} {L:List ByteArray} {l:List (S40)} {l1 l2 l3 l4:Int} (g:Got tx b L l l1 l2 l3 l4) (ht:tx.size≤4000) (hb:b.size≤1000):Big l:=by
  have hs:=g.small
  have hL:=tabB_len L
  rw [g.tab] at hL
  have hsz:∀ n ∈ l,n.f2.length≤2∧∀ s ∈ n.f2,s.size≤4000:=fun n hn => ⟨(g.fine hn).2.2.2.1,fun s hs => by have:=mem_total ((g.fine hn).2.2.2.2 s hs);omega⟩
  obtain ⟨h1,h2⟩:=txs_bound 2 4000 hsz
  refine ⟨by omega,by omega,fun n hn => ⟨by have:=(g.fine hn).2.2.1;omega,by have:=(hsz n hn).1;omega,by have:=kid_le hn;omega,fun s hs => by have:=(hsz n hn).2 s hs;omega⟩,fun n hn => ⟨(g.fine hn).2.1,fun q hq => ?_⟩,by omega,by omega⟩
  obtain ⟨j,hj,hf⟩:=fines_mem g.fines n hn
  have hk:=hf.kids
  unfold kidsE at hk
  rw [List.any_eq_false] at hk
  have:=hk q hq
  simp only [decide_eq_true_eq] at this
  omega
section
variable {tx b:ByteArray} {l0 l1 l2 l3 l4:Int} {ok:Bool}
theorem getN_none (h:(getN tx b l0 l1 l2 l3 l4 ok).2.2≠0):(getN tx b l0 l1 l2 l3 l4 ok).1 = []∧(getN tx b l0 l1 l2 l3 l4 ok).2.1 = 0:=by
  unfold getN at h ⊢
  split
  · exact ⟨rfl,rfl⟩
  · rename_i h1
    rw [if_neg h1] at h
    exact absurd rfl h
theorem getN_some (h:(getN tx b l0 l1 l2 l3 l4 ok).2.2 = 0):ok = true∧(getE badS tx 16777216 l4).1 = 0∧(endN (runN b (getE badS tx 16777216 l4).2 l1 l2).1).e = 0∧endE (getE badS tx 16777216 l4).2 (runN b (getE badS tx 16777216 l4).2 l1 l2).2 ((cntN b l1).1 - 1) l3 = 0 ∧
    getN tx b l0 l1 l2 l3 l4 ok = ((runN b (getE badS tx 16777216 l4).2 l1 l2).2,(cntN b l1).1 - 1,0):=by
  have hz:getNE tx b l0 l1 l2 l3 l4 ok = 0:=by
    unfold getN at h
    split at h
    · exact h
    · rename_i h1;simpa using h1
  have hz2:=hz
  unfold getNE at hz
  split at hz
  · exact absurd hz (by decide)
  rename_i e1
  split at hz
  · rename_i e2;exact absurd hz e2
  rename_i e2
  split at hz
  · rename_i e3;exact absurd hz e3
  rename_i e3
  exact ⟨by simpa using e1,by simpa using e2,by simpa using e3,hz,by unfold getN;rw [if_neg (by simpa using hz2)]⟩
end
end Go.Proofs.YtoigkneoaemcfaaDoor.Nd
