
import Derived.Test.YtcphcaiiofeflaaDoorOmGOx0
import Derived.Test.YtcphcaiiofeflaaDoorOmGOx10
import Derived.Test.YtcphcaiiofeflaaDoorOmGOx14
namespace Go.Proofs.YtcphcaiiofeflaaDoor.GO
open Go.RowKit Go.Proofs.YtcphcaiiofeflaaDoorW.PrintWords Go.Proofs.YtcphcaiiofeflaaDoorW.PrintLast Go.Proofs.YtcphcaiiofeflaaDoorW.PrintMore
attribute [local go_sem] max2_int min2_int max_two min_two max_three min_three max_four min_four
set_option maxHeartbeats 8000000
set_option maxRecDepth 100000
set_option linter.unusedVariables false
set_option linter.unusedSimpArgs false
section
open Go.Lib
theorem check_zero {k:Nat} {l0:List (S53)} {a1 p:Int} (h:graph_Check.f k l0 a1 = some (0,p)):0≤a1∧a1 < (l0.length:Int)∧GT.firstBad (kidsI l0) = none∧l0.length≤1000000∧((kidsI l0).map List.length).sum≤1000000:=by
 unfold graph_Check.f at h
 split at h
 ·rename_i hb;split at h
  ·simp at h
  ·rename_i hr;split at h
   ·simp at h
   ·rename_i hg;exact ⟨by omega,by omega,hg,hb.1,hb.2⟩
 ·cases h
def numsAt (n:Nat) (o:List Nat):Nat→List Int
 | 0 => List.replicate n 0
 | i+1 => (numsAt n o i).set (o.getD i 0) (i:Int)
theorem numsAt_len (n:Nat) (o:List Nat):∀ i,(numsAt n o i).length = n
 | 0 => by rw [numsAt,List.length_replicate]
 | i+1 => by rw [numsAt,List.length_set,numsAt_len n o i]
def ordOf (l0:List (S53)) (a1:Int):Option (List Nat):=GT.ordL (GT.toG (kidsI l0)) 10000000 [(a1.toNat,0)] [a1.toNat] []
theorem numbers_calls (k:Nat) (A0:Option Addr) (c0:Nat) (l0:List (S53)) (a1:Int) (w:World) (hr0:Kd.C k53 w A0 l0.length l0) (hc0:l0.length≤c0) (p:Int) (hck:graph_Check.f k l0 a1 = some (0,p))
  (o:List Nat) (ho:ordOf l0 a1 = some o) (hol:o.length≤1000000) (hon:∀ x ∈ o,x < l0.length) :
  Calls Tryd.prog 53 #[.agg #[.slice A0 l0.length c0,.int .i64 a1]] w fun e w' => ∃ v0_:Value,e = .returned (v0_)∧Kd.R (Kd.int .i64) 3 w' w.heap.size (fun _ => True) v0_ (numsAt l0.length o o.length)∧Below w.heap.size w w':=by
 obtain ⟨h0,h1,hgood,hlen,hsum⟩:=check_zero hck;have HR:=Lib.hid hr0;have HS:=Lib.hid hsum;have HG:=Lib.hid hgood;have HO:=Lib.hid ho;have HK:=Lib.hid hck;have HN:=Lib.hid hon;clear hr0 hsum hgood ho hck hon;have hn0:0 < l0.length:=by omega
 go_enter Tryd.func53,Tryd.ntmps53;go_wp2_with (fail)
 have hal:Below w.heap.size w (w.alloc (.cells #[.slice A0 l0.length c0,.int .i64 a1] 24)):=(Below.refl _ _).alloc (Nat.le_refl _) _;refine (graph_Check.calls k A0 c0 l0 a1 0 p _ (Kd.C_below HR.out hal) hc0 HK.out).mono ?_;rintro e w1 ⟨rfl,hb1⟩;have HB1:=Lib.hid (below_step hal hb1);have HX1:Hid (SBox w1 w.heap.size A0 l0.length c0 a1):=Lib.hid ((hb1.block w.heap.size (blk_lt (heap_alloc_new w _))).trans (heap_alloc_new w _));have q0:w1.cell? ⟨w.heap.size,0,none⟩ = some (.slice A0 l0.length c0):=(blk_cell HX1.out 0).trans rfl;have q1:w1.cell? ⟨w.heap.size,1,none⟩ = some (.int .i64 a1):=(blk_cell HX1.out 1).trans rfl;have hbl:=blk_lt HX1.out;clear hb1 hal;go_wp2_with (first
  | ((with_reducible refine gate_dst (N:=18) rfl ?_);refine Kd.R_make (Kd.int .i64) _ 3 rfl (N:=18) rfl 51 _ _ rfl (l0.length:Int) rfl rfl Tryd.underlying51 (.int .i64 0) 8 (show (Tryd.prog.info? 3).map (fun i => (i.zero,i.size,i.bytes)) = some (some (.int .i64 0),1,8) from by kernel_rfl) rfl (by decide) (by omega) 0 (ok:=fun _ => True) (okp:=fun _ => True) rfl (fun _ hk => hk) trivial (by omega) (by simp;omega) (Below.refl _ _) (Nat.le_refl _) ?_;intro v2 w2 hR2 hb2 hg2 _;have HB2:=Lib.hid (below_step HB1.out hb2);have HX2:Hid (SBox w2 w.heap.size A0 l0.length c0 a1):=Lib.hid ((hb2.block w.heap.size hbl).trans HX1.out);have q0b:w2.cell? ⟨w.heap.size,0,none⟩ = some (.slice A0 l0.length c0):=(blk_cell HX2.out 0).trans rfl;have q1b:w2.cell? ⟨w.heap.size,1,none⟩ = some (.int .i64 a1):=(blk_cell HX2.out 1).trans rfl;have HO2:=Lib.hid (Kw.own_of_R (Kd.R_lower hR2 HB1.out.size));clear hR2 hb2 hg2))
 have ho2:=HO2.out;rw [Int.toNat_natCast,List.length_replicate] at ho2;obtain ⟨g,cap,rfl,_,_⟩:=ho2.form hn0;have HOW:=Lib.hid ho2;clear q0 q1 ho2 HO2;refine (corder_calls A0 c0 l0 a1 w2 (Kd.C_below HR.out HB2.out) hc0 hlen HS.out h0 h1 HG.out o HO.out).mono ?_;rintro e w3 ⟨v3,rfl,hR3,hb3⟩;obtain ⟨A3,c3,rfl⟩:=Kd.R_slice hR3;have hil:(intsOf o).length = o.length:=intsOf_len o;have HO3:=Lib.hid (Kw.own_of_R hR3);rw [hil] at HO3 ⊢;have HB3:=Lib.hid (below_step HB2.out hb3);have hgl:=HOW.out.lt g rfl;have HOW3:=Lib.hid (HOW.out.kept (grown_of_below hb3 none) (.inr (by simp [Value.ownBlock])));clear hb3 hR3 q0b q1b;go_wp2_with (fail)
 go_loopg [22] o.length (fun kq v22 wr => ∃ i:Int,v22 = .int .i64 i∧0≤i∧i+kq = o.length∧Aside0 (wr.ownsRow w.heap.size 3 1 (.slice (some ⟨g,0,none⟩) l0.length cap) l0.length ((numsAt l0.length o i.toNat).map (Value.int .i64)))∧Aside0 (wr.ownsRow w2.heap.size 3 1 (.slice A3 o.length c3) o.length ((intsOf o).map (Value.int .i64)))∧Aside0 (Below w.heap.size w wr))
 case atStart => exact ⟨0,rfl,by omega,by omega,⟨by simpa [numsAt] using HOW3.out⟩,⟨HO3.out⟩,⟨HB3.out⟩⟩
 case round =>
  obtain ⟨i,rfl,hi0,hik,hrow,hor,hbel⟩:=hrel;by_cases hlt:i < (o.length:Int)
  ·have t4:decide (i < (o.length:Int)) = true:=decide_eq_true hlt;obtain ⟨gk,rfl⟩:∃ g,gk = g+1:=⟨gk - 1,by omega⟩;obtain ⟨g3,cap3,hv3,_,_⟩:=hor.out.form (by omega);cases hv3
   obtain ⟨x,hx⟩:∃ x,x = o.getD i.toNat 0:=⟨_,rfl⟩;have hxm:x ∈ o:=by rw [hx,List.getD_eq_getElem?_getD,List.getElem?_eq_getElem (by omega)];exact List.getElem_mem _
   have hxl:=HN.out x hxm;obtain ⟨xi,hxi⟩:∃ xi:Int,xi = (x:Int):=⟨_,rfl⟩;have hc1:wr.cell? ⟨g3,i.toNat,none⟩ = some (.int .i64 xi):=by
    rw [hor.out.cellAt i.toNat (by omega),hxi,hx];unfold intsOf
    rw [List.map_map,List.getElem?_map,List.getD_eq_getElem?_getD,List.getElem?_eq_getElem (by omega)];rfl
   have hxt:xi.toNat = x:=by omega
   obtain ⟨ov,hov⟩:∃ ov,wr.cell? ⟨g,xi.toNat,none⟩ = some (.int .i64 ov):=by
    rw [hrow.out.cellAt xi.toNat (by omega),List.getElem?_map,List.getElem?_eq_getElem (by rw [numsAt_len];omega)];exact ⟨_,rfl⟩
   have hfr:wr.frozen? ⟨g,xi.toNat,none⟩ = false:=hrow.out.frozenAt _;have hx0:0≤xi:=by omega
   have hx1:xi < (l0.length:Int):=by omega
   have HX:=Lib.hid hx;have HXT:=Lib.hid hxt;clear hx hxi hxm hxt;go_wp2_with (fail)
   go_roundg gk
   case measure => omega
   case rel =>
    obtain ⟨hs1,hs2⟩:=hrow.out.stored xi.toNat (.int .i64 i);have hg3:=own_base hor.out g3 rfl;have hgw:=own_base hrow.out g rfl;refine ⟨i+1,rfl,by omega,by omega,⟨?_⟩,⟨hor.out.kept hs2 (.inr (fun h => by simp [Value.ownBlock] at h;omega))⟩,⟨Kw.grown_below hbel.out hs2 (fun q h => by cases h;omega)⟩⟩;rw [show (i+1).toNat = i.toNat+1 by omega,numsAt,← HX.out,← HXT.out,List.map_set,show ((i.toNat:Nat):Int) = i by omega];exact hs1
  ·have t4:decide (i < (o.length:Int)) = false:=decide_eq_false hlt;go_wp2_with (fail)
   go_ret;have hie:i.toNat = o.length:=by omega
   have hr:=hrow.out;rw [hie] at hr;exact ⟨_,rfl,Kw.R_of_own (by rw [numsAt_len];exact hr),hbel.out⟩
theorem numbers_none (k:Nat) (A0:Option Addr) (c0:Nat) (l0:List (S53)) (a1:Int) (w:World) (hr0:Kd.C k53 w A0 l0.length l0) (hc0:l0.length≤c0) (q p:Int) (hck:graph_Check.f k l0 a1 = some (q,p)) (hq:¬ q = 0) :
  Calls Tryd.prog 53 #[.agg #[.slice A0 l0.length c0,.int .i64 a1]] w fun e w' => ∃ v0_:Value,e = .returned (v0_)∧Kd.R (Kd.int .i64) 3 w' w.heap.size (fun _ => True) v0_ []∧Below w.heap.size w w':=by
 have HR:=Lib.hid hr0;have HK:=Lib.hid hck;clear hr0 hck;have hqb:(q == 0) = false:=by simpa using hq
 go_enter Tryd.func53,Tryd.ntmps53;go_wp2_with (fail)
 have hal:Below w.heap.size w (w.alloc (.cells #[.slice A0 l0.length c0,.int .i64 a1] 24)):=(Below.refl _ _).alloc (Nat.le_refl _) _;refine (graph_Check.calls k A0 c0 l0 a1 q p _ (Kd.C_below HR.out hal) hc0 HK.out).mono ?_;rintro e w1 ⟨rfl,hb1⟩;have HB1:=Lib.hid (below_step hal hb1);clear hb1 hal;go_wp2_with (fail)
 go_ret;exact ⟨_,rfl,Kd.R_nil _ _ _ _ _,HB1.out⟩
end
def canon_Numbers.f (k:Nat) (l0_0:List (S53)) (a0_1:Int):Option (List Int) :=
 (graph_Check.f k l0_0 a0_1).bind fun c => if c.1 = 0 then (ordOf l0_0 a0_1).bind fun o => if o.length≤1000000∧(o.all fun x => decide (x < l0_0.length)) = true then some (numsAt l0_0.length o o.length) else none
  else some []
theorem canon_Numbers.mono:∀ a0 a1 k,LeO (canon_Numbers.f k a0 a1) (canon_Numbers.f (k+1) a0 a1):=by
 intro l0_0 a0_1 k r h;unfold canon_Numbers.f at h ⊢
 obtain ⟨c,hc,h2⟩:=Option.bind_eq_some_iff.1 h;rw [graph_Check.mono l0_0 a0_1 k c hc];exact h2
theorem canon_Numbers.calls (k:Nat) (A0_0:Option Addr) (c0_0:Nat) (l0_0:List (S53)) (a0_1:Int) (r:List Int) (w:World) (hr0_0:Kd.C k53 w A0_0 l0_0.length l0_0) (hc0_0:l0_0.length≤c0_0) (h:canon_Numbers.f k l0_0 a0_1 = some r) :
  Calls Tryd.prog 53 #[.agg #[.slice A0_0 l0_0.length c0_0,.int .i64 a0_1]] w fun e w' => ∃ v0_:Value,e = .returned (v0_)∧Kd.R (Kd.int .i64) 3 w' w.heap.size (fun _ => True) v0_ r∧Below w.heap.size w w':=by
 unfold canon_Numbers.f at h
 obtain ⟨⟨q,p⟩,hc,h2⟩:=Option.bind_eq_some_iff.1 h;simp only at h2;split at h2
 ·rename_i hq;subst hq;obtain ⟨o,ho,h3⟩:=Option.bind_eq_some_iff.1 h2;split at h3
  ·rename_i hb;obtain rfl:=Option.some.inj h3;exact numbers_calls k A0_0 c0_0 l0_0 a0_1 w hr0_0 hc0_0 p hc o ho hb.1 (fun x hx => by simpa using List.all_eq_true.1 hb.2 x hx)
  ·cases h3
 ·rename_i hq;obtain rfl:=Option.some.inj h2;exact numbers_none k A0_0 c0_0 l0_0 a0_1 w hr0_0 hc0_0 q p hc hq
def slices_Clone_int64_int64.f (l0:List Int):Option (List Int):=if l0.length < 8796093022208 then some l0 else none
set_option maxHeartbeats 4000000 in
set_option maxRecDepth 100000 in
theorem slices_Clone_int64_int64.calls (A0:Option Addr) (c0:Nat) (l0:List Int) (r:List Int) (w:World) (hr0:Kd.C (Kd.int .i64) w A0 l0.length l0) (hc0:l0.length≤c0) (h:slices_Clone_int64_int64.f l0 = some r) :
  Calls Tryd.prog 80 #[.slice A0 l0.length c0] w fun e w' => ∃ v0_:Value,e = .returned (v0_)∧Kd.R (Kd.int .i64) 2 w' w.heap.size (fun _ => True) v0_ r∧Below w.heap.size w w':=by
 unfold slices_Clone_int64_int64.f at h
 by_cases hlen:l0.length < 8796093022208
 ·rw [if_pos hlen] at h;obtain rfl:=Option.some.inj h;have q22:∀ (w:World) (a:Option Addr) (n c n' c':Nat),(binOp .eql 49 (.slice a n c) (.slice none n' c')).run Tryd.prog w = .ok (.bool a.isNone) w:=fun w a n c n' c' => Lib.run_eql_slice_nil w _ _ a n c n' c' Tryd.underlying49
  clear h;cases A0 with
  | none =>
   obtain rfl:=Go.Proofs.YtcphcaiiofeflaaDoor.Kw.nil_of hr0;clear hr0;go_enter Tryd.func80,Tryd.ntmps80;go_wp2
   go_ret;exact ⟨_,rfl,Kd.R_nil _ _ _ _ _,Below.refl _ _⟩
  | some ad =>
   have HN:=Lib.hid (Go.Proofs.YtcphcaiiofeflaaDoor.Kw.cells_of hr0);obtain ⟨i0,hi,hz0,hz1,hz2⟩:=info_parts (show (Tryd.prog.info? 2).map (fun i => (i.zero,i.size,i.bytes)) = some (some (.int .i64 0),1,8) from by kernel_rfl);clear hr0;go_enter Tryd.func80,Tryd.ntmps80;go_wp2_with (at_builtin;refine wpList_append_own _ rfl _ _ 49 rfl w.heap.size 2 i0 (.int .i64 0) 1 8 Tryd.underlying49 hi hz0 hz1 hz2 rfl (by decide) _ _ _ rfl (World.ownsRow_made w #[] 0 (Nat.le_refl _) (Nat.zero_le _) rfl) ad l0.length c0 (l0.map (Value.int .i64)) rfl ?qc1 ?qc2 ?qc3 ?qc4 ?qc5 ?qc6 ?_)
   case qc1 => simp
   case qc2 => intro j u hj;exact Lib.cell?_alloc_some _ (HN.out j u hj)
   case qc3 => intro u hu;obtain ⟨x,_,rfl⟩:=List.mem_map.1 hu;rfl
   case qc4 => unfold maxLen;omega
   case qc5 => omega
   case qc6 => simp
   intro v' w1 hown hgrow hnil;go_wp2
   go_ret;refine ⟨v',rfl,Go.Proofs.YtcphcaiiofeflaaDoor.Kw.R_of_own (by simpa using hown),?_⟩;exact ((Below.refl _ w).alloc (Nat.le_refl _) _).grown hgrow (by simp) (by intro k hk;simp [Value.ownBlock] at hk;omega)
 ·rw [if_neg hlen] at h;cases h
def slices_Clone_string_string.f (l0:List ByteArray):Option (List ByteArray):=if l0.length < 8796093022208 then some l0 else none
set_option maxHeartbeats 4000000 in
set_option maxRecDepth 100000 in
theorem slices_Clone_string_string.calls (A0:Option Addr) (c0:Nat) (l0:List ByteArray) (r:List ByteArray) (w:World) (hr0:Kd.C Kd.string w A0 l0.length l0) (hc0:l0.length≤c0) (h:slices_Clone_string_string.f l0 = some r) :
  Calls Tryd.prog 81 #[.slice A0 l0.length c0] w fun e w' => ∃ v0_:Value,e = .returned (v0_)∧Kd.R Kd.string 9 w' w.heap.size (fun _ => True) v0_ r∧Below w.heap.size w w':=by
 unfold slices_Clone_string_string.f at h
 by_cases hlen:l0.length < 8796093022208
 ·rw [if_pos hlen] at h;obtain rfl:=Option.some.inj h;have q22:∀ (w:World) (a:Option Addr) (n c n' c':Nat),(binOp .eql 50 (.slice a n c) (.slice none n' c')).run Tryd.prog w = .ok (.bool a.isNone) w:=fun w a n c n' c' => Lib.run_eql_slice_nil w _ _ a n c n' c' Tryd.underlying50
  clear h;cases A0 with
  | none =>
   obtain rfl:=Go.Proofs.YtcphcaiiofeflaaDoor.Kw.nil_of hr0;clear hr0;go_enter Tryd.func81,Tryd.ntmps81;go_wp2
   go_ret;exact ⟨_,rfl,Kd.R_nil _ _ _ _ _,Below.refl _ _⟩
  | some ad =>
   have HN:=Lib.hid (Go.Proofs.YtcphcaiiofeflaaDoor.Kw.cells_of hr0);obtain ⟨i0,hi,hz0,hz1,hz2⟩:=info_parts (show (Tryd.prog.info? 9).map (fun i => (i.zero,i.size,i.bytes)) = some (some (.string ByteArray.empty),1,16) from by kernel_rfl);clear hr0;go_enter Tryd.func81,Tryd.ntmps81;go_wp2_with (at_builtin;refine wpList_append_own _ rfl _ _ 50 rfl w.heap.size 9 i0 (.string ByteArray.empty) 1 16 Tryd.underlying50 hi hz0 hz1 hz2 rfl (by decide) _ _ _ rfl (World.ownsRow_made w #[] 0 (Nat.le_refl _) (Nat.zero_le _) rfl) ad l0.length c0 (l0.map Value.string) rfl ?qc1 ?qc2 ?qc3 ?qc4 ?qc5 ?qc6 ?_)
   case qc1 => simp
   case qc2 => intro j u hj;exact Lib.cell?_alloc_some _ (HN.out j u hj)
   case qc3 => intro u hu;obtain ⟨x,_,rfl⟩:=List.mem_map.1 hu;rfl
   case qc4 => unfold maxLen;omega
   case qc5 => omega
   case qc6 => simp
   intro v' w1 hown hgrow hnil;go_wp2
   go_ret;refine ⟨v',rfl,Go.Proofs.YtcphcaiiofeflaaDoor.Kw.R_of_own (by simpa using hown),?_⟩;exact ((Below.refl _ w).alloc (Nat.le_refl _) _).grown hgrow (by simp) (by intro k hk;simp [Value.ownBlock] at hk;omega)
 ·rw [if_neg hlen] at h;cases h
def field_Copy.f (a0_0:Int) (l0_1:List Int) (l0_2:List ByteArray) (l0_3:List Int):Option (Int × List Int × List ByteArray × List Int):=(slices_Clone_int64_int64.f l0_1).bind fun t303 => ((slices_Clone_string_string.f l0_2).bind fun t306 => ((slices_Clone_int_int.f l0_3).bind fun t309 => (some (a0_0,t303,t306,t309))))
def field_Copy.T1:Bool × List (List Nat × List Nat):=(true,[([],[]),([0],[0]),([],[]),([2],[2]),([3],[3]),([],[]),([5],[5]),([6,4],[6]),([],[]),([8],[8]),([9,7],[9]),([1,4,7,10],[1,4,7,10]),([11,10,0,1,2,3,4,5,6,7,8,9,10,11],[11])])
def field_Copy.B1:List Nat:=[0,1,0,4,12,0,32,124,0,256,1020,2047,4095]
theorem field_Copy.tab1:rtab .any (opsOf Tryd.f54 1) = field_Copy.T1:=by kernel_rfl
theorem field_Copy.bits1:waitsOk field_Copy.T1.2 field_Copy.B1 = true:=by kernel_rfl
theorem field_Copy.calls (a0_0:Int) (A0_1:Option Addr) (c0_1:Nat) (l0_1:List Int) (A0_2:Option Addr) (c0_2:Nat) (l0_2:List ByteArray) (A0_3:Option Addr) (c0_3:Nat) (l0_3:List Int) (r1:Int) (r2:List Int) (r3:List ByteArray) (r4:List Int) (w:World) (hr0_1:Kd.C (Kd.int .i64) w A0_1 l0_1.length l0_1) (hc0_1:l0_1.length≤c0_1) (hr0_2:Kd.C Kd.string w A0_2 l0_2.length l0_2) (hc0_2:l0_2.length≤c0_2) (hr0_3:Kd.C (Kd.int .i64) w A0_3 l0_3.length l0_3) (hc0_3:l0_3.length≤c0_3) (h:field_Copy.f a0_0 l0_1 l0_2 l0_3 = some (r1,r2,r3,r4)) :
  Calls Tryd.prog 54 #[.agg #[.int .i64 a0_0,.slice A0_1 l0_1.length c0_1,.slice A0_2 l0_2.length c0_2,.slice A0_3 l0_3.length c0_3]] w fun e w' => ∃ v1_ v2_ v3_:Value,e = .returned (.agg #[.int .i64 r1,v1_,v2_,v3_])∧Kd.R (Kd.int .i64) 2 w' w.heap.size (fun _ => True) v1_ r2∧Kd.R Kd.string 9 w' w.heap.size (fun _ => True) v2_ r3∧Kd.R (Kd.int .i64) 3 w' w.heap.size (fun _ => True) v3_ r4∧Below w.heap.size w w':=by
 have hu53:=Tryd.underlying53;have HR0_1:=AM hr0_1;have HC0_1:=AM hc0_1;clear hr0_1 hc0_1;have HR0_2:=AM hr0_2;have HC0_2:=AM hc0_2;clear hr0_2 hc0_2;have HR0_3:=AM hr0_3;have HC0_3:=AM hc0_3;clear hr0_3 hc0_3;have HB:=AM (Below.refl w.heap.size w);have H:((slices_Clone_int64_int64.f l0_1).bind fun t303 => ((slices_Clone_string_string.f l0_2).bind fun t306 => ((slices_Clone_int_int.f l0_3).bind fun t309 => (some (a0_0,t303,t306,t309))))) = some (r1,r2,r3,r4):=h;clear h;replace H:=Option.bind_eq_some_iff.mp H;obtain ⟨t303,A20,H⟩:=H;replace H:((slices_Clone_string_string.f l0_2).bind fun t306 => ((slices_Clone_int_int.f l0_3).bind fun t309 => (some (a0_0,t303,t306,t309)))) = some (r1,r2,r3,r4):=H;have A2:=AM A20;clear A20;replace H:=Option.bind_eq_some_iff.mp H;obtain ⟨t306,A30,H⟩:=H;replace H:((slices_Clone_int_int.f l0_3).bind fun t309 => (some (a0_0,t303,t306,t309))) = some (r1,r2,r3,r4):=H;have A3:=AM A30;clear A30;replace H:=Option.bind_eq_some_iff.mp H;obtain ⟨t309,A40,H⟩:=H;replace H:(some (a0_0,t303,t306,t309)) = some (r1,r2,r3,r4):=H;have A4:=AM A40;clear A40;simp only [Option.some.injEq,Prod.mk.injEq] at H;obtain ⟨rfl,rfl,rfl,rfl⟩:=H;go_enter Tryd.func54,Tryd.ntmps54;try go_wp2_with (first | ((with_reducible refine gate_dst (N:=1) rfl ?_);refine boxE 1 #[.int .i64 a0_0,.slice A0_1 l0_1.length c0_1,.slice A0_2 l0_2.length c0_2,.slice A0_3 l0_3.length c0_3] 53 ?_;intro gb301 hg w5 hbox hb;have BK301:=AM (hbox);have GW301:=GW HB hg;have GE301:=GW HB hg;replace HB:=BS HB hb;clear hb hbox hg) | ((with_reducible refine gate_dst (N:=2) rfl ?_);refine boxE 2 #[.int .i64 0,.slice none 0 0,.slice none 0 0,.slice none 0 0] 53 ?_;intro gb302 hg w6 hbox hb;have BK302:=AM (hbox);have GW302:=GW HB hg;have GE302:=GW HB hg;replace HB:=BS HB hb;have NB301_302:=NL BK301 hg;have NB302_301:=NG BK301 hg;replace BK301:=BE BK301 hb;clear hb hbox hg))
 replace BK301:=AM (blk_drew BK301.out);replace BK302:=AM (blk_drew BK302.out);replace HB:=AM (below_drew1 HB.out);refine start_ (n:=13) (S:=fun w' => w'.cell? ⟨gb301,0,none⟩ = some (.int .i64 a0_0)∧w'.cell? ⟨gb301,1,none⟩ = some (.slice A0_1 l0_1.length c0_1)∧w'.cell? ⟨gb301,2,none⟩ = some (.slice A0_2 l0_2.length c0_2)∧w'.cell? ⟨gb301,3,none⟩ = some (.slice A0_3 l0_3.length c0_3)) (ds:=[]) #[false,false,false,false,false,false,false,false,false,false,false,false,false] (by kernel_rfl) rfl rfl ⟨(blk_cell BK301.out 0).trans rfl,(blk_cell BK301.out 1).trans rfl,(blk_cell BK301.out 2).trans rfl,(blk_cell BK301.out 3).trans rfl⟩ (fun hHeld => ?_);refine with_tabW field_Copy.tab1 field_Copy.bits1 (fun HT_ HW_ => ?_);generalize w6.drew = w7 at BK301 BK302 HB hHeld ⊢;refine pureA HT_ (i:=0) (N:=some 3) #[true,false,false,false,false,false,false,false,false,false,false,false,false] ?_;refine pureA HT_ (i:=2) (N:=some 5) #[true,false,true,false,false,false,false,false,false,false,false,false,false] ?_;refine pureA HT_ (i:=5) (N:=some 8) #[true,false,true,false,false,true,false,false,false,false,false,false,false] ?_;refine pureA HT_ (i:=8) (N:=some 11) #[true,false,true,false,false,true,false,false,true,false,false,false,false] ?_;refine takeB_ (i:=1) (N:=some 4) (hi:=rfl) (hN:=rfl) (hc:=take_ofW HT_.out HW_.out (by kernel_rfl)) #[true,true,true,false,false,true,false,false,true,false,false,false,false] hHeld (by rintro w' ⟨s0,s1,s2,s3⟩;go_simp;with_reducible rfl) ?_;refine takeB_ (i:=3) (N:=some 6) (hi:=rfl) (hN:=rfl) (hc:=take_ofW HT_.out HW_.out (by kernel_rfl)) #[true,true,true,true,false,true,false,false,true,false,false,false,false] hHeld (by rintro w' ⟨s0,s1,s2,s3⟩;go_simp;with_reducible rfl) ?_;refine takeB_ (i:=6) (N:=some 9) (hi:=rfl) (hN:=rfl) (hc:=take_ofW HT_.out HW_.out (by kernel_rfl)) #[true,true,true,true,false,true,true,false,true,false,false,false,false] hHeld (by rintro w' ⟨s0,s1,s2,s3⟩;go_simp;with_reducible rfl) ?_;refine takeB_ (i:=9) (N:=some 12) (hi:=rfl) (hN:=rfl) (hc:=take_ofW HT_.out HW_.out (by kernel_rfl)) #[true,true,true,true,false,true,true,false,true,true,false,false,false] hHeld (by rintro w' ⟨s0,s1,s2,s3⟩;go_simp;with_reducible rfl) ?_;refine one_ (i:=4) (N:=some 7) #[true,true,true,true,true,true,true,false,true,true,false,false,false] rfl rfl (one_of HT_.out (by kernel_rfl)) (by decide) (fun K hK => ?_);refine goesN Tryd.func80 #[.slice A0_1 l0_1.length c0_1] ?_;with_reducible refine (slices_Clone_int64_int64.calls _ _ l0_1 t303 _ ?side1 ?side2 A2.out).mono ?_
 (case side1 => exact Kd.C_below HR0_1.out (BB HB))
 (case side2 => exact HC0_1.out)
 rintro e w8 ⟨v304,rfl,ho0,hb⟩;refine ⟨_,rfl,?_⟩;have HO305:=AM (Kd.R_lower ho0 (below_size (BB HB)));replace BK301:=BE BK301 hb;replace BK302:=BE BK302 hb;replace HB:=BS HB hb;(try clear hb)
 (try clear hb2)
 (try clear hk)
 (try clear hi)
 (try clear ho0)
 refine hK.out _ _ ⟨(blk_cell BK301.out 0).trans rfl,(blk_cell BK301.out 1).trans rfl,(blk_cell BK301.out 2).trans rfl,(blk_cell BK301.out 3).trans rfl⟩ (fun hHeld => ?_);clear hK K;refine norm_ (a':=?_) ?_ ?_
 rotate_left
 ·show Act.put _ (some 7) _ = _
  simp only [Act.put,List.setIfInBounds_toArray,List.set_cons_zero,List.set_cons_succ,i64_w,i32_w];rfl
 refine one_ (i:=7) (N:=some 10) #[true,true,true,true,true,true,true,true,true,true,false,false,false] rfl rfl (one_of HT_.out (by kernel_rfl)) (by decide) (fun K hK => ?_);refine goesN Tryd.func81 #[.slice A0_2 l0_2.length c0_2] ?_;with_reducible refine (slices_Clone_string_string.calls _ _ l0_2 t306 _ ?side1 ?side2 A3.out).mono ?_
 (case side1 => exact Kd.C_below HR0_2.out (BB HB))
 (case side2 => exact HC0_2.out)
 rintro e w9 ⟨v307,rfl,ho0,hb⟩;refine ⟨_,rfl,?_⟩;replace HO305:=AM (Kd.R_below (RL HO305) hb);have HO308:=AM (Kd.R_lower ho0 (below_size (BB HB)));replace BK301:=BE BK301 hb;replace BK302:=BE BK302 hb;replace HB:=BS HB hb;(try clear hb)
 (try clear hb2)
 (try clear hk)
 (try clear hi)
 (try clear ho0)
 refine hK.out _ _ ⟨(blk_cell BK301.out 0).trans rfl,(blk_cell BK301.out 1).trans rfl,(blk_cell BK301.out 2).trans rfl,(blk_cell BK301.out 3).trans rfl⟩ (fun hHeld => ?_);clear hK K;refine norm_ (a':=?_) ?_ ?_
 rotate_left
 ·show Act.put _ (some 10) _ = _
  simp only [Act.put,List.setIfInBounds_toArray,List.set_cons_zero,List.set_cons_succ,i64_w,i32_w];rfl
 refine one_ (i:=10) (N:=some 13) #[true,true,true,true,true,true,true,true,true,true,true,false,false] rfl rfl (one_of HT_.out (by kernel_rfl)) (by decide) (fun K hK => ?_);refine goesN Tryd.func69 #[.slice A0_3 l0_3.length c0_3] ?_;with_reducible refine (slices_Clone_int_int.calls _ _ l0_3 t309 _ ?side1 ?side2 A4.out).mono ?_
 (case side1 => exact Kd.C_below HR0_3.out (BB HB))
 (case side2 => exact HC0_3.out)
 rintro e w10 ⟨v310,rfl,ho0,hb⟩;refine ⟨_,rfl,?_⟩;replace HO305:=AM (Kd.R_below (RL HO305) hb);replace HO308:=AM (Kd.R_below (RL HO308) hb);have HO311:=AM (Kd.R_lower ho0 (below_size (BB HB)));replace BK301:=BE BK301 hb;replace BK302:=BE BK302 hb;replace HB:=BS HB hb;(try clear hb)
 (try clear hb2)
 (try clear hk)
 (try clear hi)
 (try clear ho0)
 obtain ⟨Ao11,co11,eo11⟩:=Kd.R_slice HO311.out;(first | subst eo11 | (injection eo11 with f1_ f2_ f3_;have f4_:=f1_.symm;have f5_:=f3_.symm;clear f1_ f2_ f3_;subst f4_;subst f5_))
 obtain ⟨Ao12,co12,eo12⟩:=Kd.R_slice HO308.out;(first | subst eo12 | (injection eo12 with f1_ f2_ f3_;have f4_:=f1_.symm;have f5_:=f3_.symm;clear f1_ f2_ f3_;subst f4_;subst f5_))
 obtain ⟨Ao13,co13,eo13⟩:=Kd.R_slice HO305.out;(first | subst eo13 | (injection eo13 with f1_ f2_ f3_;have f4_:=f1_.symm;have f5_:=f3_.symm;clear f1_ f2_ f3_;subst f4_;subst f5_))
 refine hK.out _ _ ⟨(blk_cell BK301.out 0).trans rfl,(blk_cell BK301.out 1).trans rfl,(blk_cell BK301.out 2).trans rfl,(blk_cell BK301.out 3).trans rfl⟩ (fun hHeld => ?_);clear hK K;refine norm_ (a':=?_) ?_ ?_
 rotate_left
 ·show Act.put _ (some 13) _ = _
  simp only [Act.put,List.setIfInBounds_toArray,List.set_cons_zero,List.set_cons_succ,i64_w,i32_w];rfl
 refine pureA HT_ (i:=11) (N:=some 14) #[true,true,true,true,true,true,true,true,true,true,true,true,false] ?_;refine one_ (i:=12) (N:=none) #[true,true,true,true,true,true,true,true,true,true,true,true,true] rfl rfl (one_of HT_.out (by kernel_rfl)) (by decide) (fun K hK => ?_);have hs14:w10.cell? ⟨gb302,0,none⟩ = some (.int .i64 0):=(blk_cell BK302.out 0).trans rfl;have hfs14:=BF BK302 0;have hns14_0:=NB301_302.out;have hms14_0:=NB302_301.out;have hs15:w10.cell? ⟨gb302,1,none⟩ = some (.slice none 0 0):=(blk_cell BK302.out 1).trans rfl;have hfs15:=BF BK302 1;have hns15_0:=NB301_302.out;have hms15_0:=NB302_301.out;have hs16:w10.cell? ⟨gb302,2,none⟩ = some (.slice none 0 0):=(blk_cell BK302.out 2).trans rfl;have hfs16:=BF BK302 2;have hns16_0:=NB301_302.out;have hms16_0:=NB302_301.out;have hs17:w10.cell? ⟨gb302,3,none⟩ = some (.slice none 0 0):=(blk_cell BK302.out 3).trans rfl;have hfs17:=BF BK302 3;have hns17_0:=NB301_302.out;have hms17_0:=NB302_301.out;refine skip_ (w1:=?_) (by rfl) rfl ?_ ?_
 rotate_left
 ·go_simp
  rfl
 refine hK.out _ _ ⟨((cell_far (p:=⟨gb302,_,none⟩) NB301_302.out _).trans (((cell_far (p:=⟨gb302,_,none⟩) NB301_302.out _).trans (((cell_far (p:=⟨gb302,_,none⟩) NB301_302.out _).trans (((cell_far (p:=⟨gb302,_,none⟩) NB301_302.out _).trans (hHeld.1)))))))),((cell_far (p:=⟨gb302,_,none⟩) NB301_302.out _).trans (((cell_far (p:=⟨gb302,_,none⟩) NB301_302.out _).trans (((cell_far (p:=⟨gb302,_,none⟩) NB301_302.out _).trans (((cell_far (p:=⟨gb302,_,none⟩) NB301_302.out _).trans (hHeld.2.1)))))))),((cell_far (p:=⟨gb302,_,none⟩) NB301_302.out _).trans (((cell_far (p:=⟨gb302,_,none⟩) NB301_302.out _).trans (((cell_far (p:=⟨gb302,_,none⟩) NB301_302.out _).trans (((cell_far (p:=⟨gb302,_,none⟩) NB301_302.out _).trans (hHeld.2.2.1)))))))),((cell_far (p:=⟨gb302,_,none⟩) NB301_302.out _).trans (((cell_far (p:=⟨gb302,_,none⟩) NB301_302.out _).trans (((cell_far (p:=⟨gb302,_,none⟩) NB301_302.out _).trans (((cell_far (p:=⟨gb302,_,none⟩) NB301_302.out _).trans (hHeld.2.2.2))))))))⟩ (fun hHeld => ?_);clear hK K;refine done_ (done_of HT_.out (by kernel_rfl)) ?_;try go_wp2
 refine bodyPost_ret (results_cell_row rfl _ _ gb302 53 #[.int .i64 a0_0,.slice Ao13 t303.length co13,.slice Ao12 t306.length co12,.slice Ao11 t309.length co11] (0,0) _ rfl (by refine blk_put (cs:=#[.int .i64 a0_0,.slice Ao13 t303.length co13,.slice Ao12 t306.length co12,.slice none 0 0]) ?_ 3 _ rfl;refine blk_put (cs:=#[.int .i64 a0_0,.slice Ao13 t303.length co13,.slice none 0 0,.slice none 0 0]) ?_ 2 _ rfl;refine blk_put (cs:=#[.int .i64 a0_0,.slice none 0 0,.slice none 0 0,.slice none 0 0]) ?_ 1 _ rfl;refine blk_put (cs:=#[.int .i64 0,.slice none 0 0,.slice none 0 0,.slice none 0 0]) ?_ 0 _ rfl;exact BL BK302) Tryd.underlying53 rfl (by kernel_rfl)) rfl ?_;exact ⟨_,_,_,by first | rfl | (simp [errW_none,errW_some] <;> rfl) | (simp [*,errW_none,errW_some] <;> rfl),by exact Kd.R_mono (Kd.R_far (p:=⟨gb302,3,none⟩) (Kd.R_far (p:=⟨gb302,2,none⟩) (Kd.R_far (p:=⟨gb302,1,none⟩) (Kd.R_far (p:=⟨gb302,0,none⟩) (Kd.R_types HO305.out BK302.out (by decide)) (fun _ hk => hk.2) (.int .i64 a0_0)) (fun _ hk => hk.2) (.slice Ao13 t303.length co13)) (fun _ hk => hk.2) (.slice Ao12 t306.length co12)) (fun _ hk => hk.2) (.slice Ao11 t309.length co11)) (fun _ hk => trivial),by exact Kd.R_mono (Kd.R_far (p:=⟨gb302,3,none⟩) (Kd.R_far (p:=⟨gb302,2,none⟩) (Kd.R_far (p:=⟨gb302,1,none⟩) (Kd.R_far (p:=⟨gb302,0,none⟩) (Kd.R_types HO308.out BK302.out (by decide)) (fun _ hk => hk.2) (.int .i64 a0_0)) (fun _ hk => hk.2) (.slice Ao13 t303.length co13)) (fun _ hk => hk.2) (.slice Ao12 t306.length co12)) (fun _ hk => hk.2) (.slice Ao11 t309.length co11)) (fun _ hk => trivial),by exact Kd.R_mono (Kd.R_far (p:=⟨gb302,3,none⟩) (Kd.R_far (p:=⟨gb302,2,none⟩) (Kd.R_far (p:=⟨gb302,1,none⟩) (Kd.R_far (p:=⟨gb302,0,none⟩) (Kd.R_types HO311.out BK302.out (by decide)) (fun _ hk => hk.2) (.int .i64 a0_0)) (fun _ hk => hk.2) (.slice Ao13 t303.length co13)) (fun _ hk => hk.2) (.slice Ao12 t306.length co12)) (fun _ hk => hk.2) (.slice Ao11 t309.length co11)) (fun _ hk => trivial),BB HB⟩
end Go.Proofs.YtcphcaiiofeflaaDoor.GO
