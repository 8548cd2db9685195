
import Derived.Test.YtoigkneoaemcfaaDoorNoM2
import Derived.Test.YtoigkneoaemcfaaDoorNoGNx2
import Derived.Test.YtoigkneoaemcfaaDoorNoGNx4
import Derived.Test.YtoigkneoaemcfaaDoorNoGNx5
namespace Go.Proofs.YtoigkneoaemcfaaDoor.GN
open Go.RowKit Go.Proofs.YtoigkneoaemcfaaDoorW.PrintWords Go.Proofs.YtoigkneoaemcfaaDoorW.PrintLast Go.Proofs.YtoigkneoaemcfaaDoorW.PrintMore
attribute [local go_sem] max2_int min2_int max_two min_two max_three min_three max_four min_four
set_option maxHeartbeats 8000000
set_option maxRecDepth 100000
set_option linter.unusedVariables false
set_option linter.unusedSimpArgs false
section
open Go.Lib
theorem check_zero {k:Nat} {l0:List (S40)} {a1 p:Int} (h:graph_Check.f k l0 a1 = some (0,p)):0≤a1∧a1 < (l0.length:Int)∧GT.firstBad (kidsI l0) = none∧l0.length≤1000000∧((kidsI l0).map List.length).sum≤1000000:=by
 unfold graph_Check.f at h
 split at h
 ·rename_i hb;split at h
  ·simp at h
  ·rename_i hr;split at h
   ·simp at h
   ·rename_i hg;exact ⟨by omega,by omega,hg,hb.1,hb.2⟩
 ·cases h
def numsAt (n:Nat) (o:List Nat):Nat→List Int
 | 0 => List.replicate n 0
 | i+1 => (numsAt n o i).set (o.getD i 0) (i:Int)
theorem numsAt_len (n:Nat) (o:List Nat):∀ i,(numsAt n o i).length = n
 | 0 => by rw [numsAt,List.length_replicate]
 | i+1 => by rw [numsAt,List.length_set,numsAt_len n o i]
def ordOf (l0:List (S40)) (a1:Int):Option (List Nat):=GT.ordL (GT.toG (kidsI l0)) 10000000 [(a1.toNat,0)] [a1.toNat] []
theorem numbers_calls (k:Nat) (A0:Option Addr) (c0:Nat) (l0:List (S40)) (a1:Int) (w:World) (hr0:Kd.C k40 w A0 l0.length l0) (hc0:l0.length≤c0) (p:Int) (hck:graph_Check.f k l0 a1 = some (0,p))
  (o:List Nat) (ho:ordOf l0 a1 = some o) (hol:o.length≤1000000) (hon:∀ x ∈ o,x < l0.length) :
  Calls Tryd.prog 72 #[.agg #[.slice A0 l0.length c0,.int .i64 a1]] w fun e w' => ∃ v0_:Value,e = .returned (v0_)∧Kd.R (Kd.int .i64) 3 w' w.heap.size (fun _ => True) v0_ (numsAt l0.length o o.length)∧Below w.heap.size w w':=by
 obtain ⟨h0,h1,hgood,hlen,hsum⟩:=check_zero hck;have HR:=Lib.hid hr0;have HS:=Lib.hid hsum;have HG:=Lib.hid hgood;have HO:=Lib.hid ho;have HK:=Lib.hid hck;have HN:=Lib.hid hon;clear hr0 hsum hgood ho hck hon;have hn0:0 < l0.length:=by omega
 go_enter Tryd.func72,Tryd.ntmps72;go_wp2_with (fail)
 have hal:Below w.heap.size w (w.alloc (.cells #[.slice A0 l0.length c0,.int .i64 a1] 27)):=(Below.refl _ _).alloc (Nat.le_refl _) _;refine (graph_Check.calls k A0 c0 l0 a1 0 p _ (Kd.C_below HR.out hal) hc0 HK.out).mono ?_;rintro e w1 ⟨rfl,hb1⟩;have HB1:=Lib.hid (below_step hal hb1);have HX1:Hid (SBox w1 w.heap.size A0 l0.length c0 a1):=Lib.hid ((hb1.block w.heap.size (blk_lt (heap_alloc_new w _))).trans (heap_alloc_new w _));have q0:w1.cell? ⟨w.heap.size,0,none⟩ = some (.slice A0 l0.length c0):=(blk_cell HX1.out 0).trans rfl;have q1:w1.cell? ⟨w.heap.size,1,none⟩ = some (.int .i64 a1):=(blk_cell HX1.out 1).trans rfl;have hbl:=blk_lt HX1.out;clear hb1 hal;go_wp2_with (first
  | ((with_reducible refine gate_dst (N:=18) rfl ?_);refine Kd.R_make (Kd.int .i64) _ 3 rfl (N:=18) rfl 38 _ _ rfl (l0.length:Int) rfl rfl Tryd.underlying38 (.int .i64 0) 8 (show (Tryd.prog.info? 3).map (fun i => (i.zero,i.size,i.bytes)) = some (some (.int .i64 0),1,8) from by kernel_rfl) rfl (by decide) (by omega) 0 (ok:=fun _ => True) (okp:=fun _ => True) rfl (fun _ hk => hk) trivial (by omega) (by simp;omega) (Below.refl _ _) (Nat.le_refl _) ?_;intro v2 w2 hR2 hb2 hg2 _;have HB2:=Lib.hid (below_step HB1.out hb2);have HX2:Hid (SBox w2 w.heap.size A0 l0.length c0 a1):=Lib.hid ((hb2.block w.heap.size hbl).trans HX1.out);have q0b:w2.cell? ⟨w.heap.size,0,none⟩ = some (.slice A0 l0.length c0):=(blk_cell HX2.out 0).trans rfl;have q1b:w2.cell? ⟨w.heap.size,1,none⟩ = some (.int .i64 a1):=(blk_cell HX2.out 1).trans rfl;have HO2:=Lib.hid (Kw.own_of_R (Kd.R_lower hR2 HB1.out.size));clear hR2 hb2 hg2))
 have ho2:=HO2.out;rw [Int.toNat_natCast,List.length_replicate] at ho2;obtain ⟨g,cap,rfl,_,_⟩:=ho2.form hn0;have HOW:=Lib.hid ho2;clear q0 q1 ho2 HO2;refine (corder_calls A0 c0 l0 a1 w2 (Kd.C_below HR.out HB2.out) hc0 hlen HS.out h0 h1 HG.out o HO.out).mono ?_;rintro e w3 ⟨v3,rfl,hR3,hb3⟩;obtain ⟨A3,c3,rfl⟩:=Kd.R_slice hR3;have hil:(intsOf o).length = o.length:=intsOf_len o;have HO3:=Lib.hid (Kw.own_of_R hR3);rw [hil] at HO3 ⊢;have HB3:=Lib.hid (below_step HB2.out hb3);have hgl:=HOW.out.lt g rfl;have HOW3:=Lib.hid (HOW.out.kept (grown_of_below hb3 none) (.inr (by simp [Value.ownBlock])));clear hb3 hR3 q0b q1b;go_wp2_with (fail)
 go_loopg [22] o.length (fun kq v22 wr => ∃ i:Int,v22 = .int .i64 i∧0≤i∧i+kq = o.length∧Aside0 (wr.ownsRow w.heap.size 3 1 (.slice (some ⟨g,0,none⟩) l0.length cap) l0.length ((numsAt l0.length o i.toNat).map (Value.int .i64)))∧Aside0 (wr.ownsRow w2.heap.size 3 1 (.slice A3 o.length c3) o.length ((intsOf o).map (Value.int .i64)))∧Aside0 (Below w.heap.size w wr))
 case atStart => exact ⟨0,rfl,by omega,by omega,⟨by simpa [numsAt] using HOW3.out⟩,⟨HO3.out⟩,⟨HB3.out⟩⟩
 case round =>
  obtain ⟨i,rfl,hi0,hik,hrow,hor,hbel⟩:=hrel;by_cases hlt:i < (o.length:Int)
  ·have t4:decide (i < (o.length:Int)) = true:=decide_eq_true hlt;obtain ⟨gk,rfl⟩:∃ g,gk = g+1:=⟨gk - 1,by omega⟩;obtain ⟨g3,cap3,hv3,_,_⟩:=hor.out.form (by omega);cases hv3
   obtain ⟨x,hx⟩:∃ x,x = o.getD i.toNat 0:=⟨_,rfl⟩;have hxm:x ∈ o:=by rw [hx,List.getD_eq_getElem?_getD,List.getElem?_eq_getElem (by omega)];exact List.getElem_mem _
   have hxl:=HN.out x hxm;obtain ⟨xi,hxi⟩:∃ xi:Int,xi = (x:Int):=⟨_,rfl⟩;have hc1:wr.cell? ⟨g3,i.toNat,none⟩ = some (.int .i64 xi):=by
    rw [hor.out.cellAt i.toNat (by omega),hxi,hx];unfold intsOf
    rw [List.map_map,List.getElem?_map,List.getD_eq_getElem?_getD,List.getElem?_eq_getElem (by omega)];rfl
   have hxt:xi.toNat = x:=by omega
   obtain ⟨ov,hov⟩:∃ ov,wr.cell? ⟨g,xi.toNat,none⟩ = some (.int .i64 ov):=by
    rw [hrow.out.cellAt xi.toNat (by omega),List.getElem?_map,List.getElem?_eq_getElem (by rw [numsAt_len];omega)];exact ⟨_,rfl⟩
   have hfr:wr.frozen? ⟨g,xi.toNat,none⟩ = false:=hrow.out.frozenAt _;have hx0:0≤xi:=by omega
   have hx1:xi < (l0.length:Int):=by omega
   have HX:=Lib.hid hx;have HXT:=Lib.hid hxt;clear hx hxi hxm hxt;go_wp2_with (fail)
   go_roundg gk
   case measure => omega
   case rel =>
    obtain ⟨hs1,hs2⟩:=hrow.out.stored xi.toNat (.int .i64 i);have hg3:=own_base hor.out g3 rfl;have hgw:=own_base hrow.out g rfl;refine ⟨i+1,rfl,by omega,by omega,⟨?_⟩,⟨hor.out.kept hs2 (.inr (fun h => by simp [Value.ownBlock] at h;omega))⟩,⟨Kw.grown_below hbel.out hs2 (fun q h => by cases h;omega)⟩⟩;rw [show (i+1).toNat = i.toNat+1 by omega,numsAt,← HX.out,← HXT.out,List.map_set,show ((i.toNat:Nat):Int) = i by omega];exact hs1
  ·have t4:decide (i < (o.length:Int)) = false:=decide_eq_false hlt;go_wp2_with (fail)
   go_ret;have hie:i.toNat = o.length:=by omega
   have hr:=hrow.out;rw [hie] at hr;exact ⟨_,rfl,Kw.R_of_own (by rw [numsAt_len];exact hr),hbel.out⟩
theorem numbers_none (k:Nat) (A0:Option Addr) (c0:Nat) (l0:List (S40)) (a1:Int) (w:World) (hr0:Kd.C k40 w A0 l0.length l0) (hc0:l0.length≤c0) (q p:Int) (hck:graph_Check.f k l0 a1 = some (q,p)) (hq:¬ q = 0) :
  Calls Tryd.prog 72 #[.agg #[.slice A0 l0.length c0,.int .i64 a1]] w fun e w' => ∃ v0_:Value,e = .returned (v0_)∧Kd.R (Kd.int .i64) 3 w' w.heap.size (fun _ => True) v0_ []∧Below w.heap.size w w':=by
 have HR:=Lib.hid hr0;have HK:=Lib.hid hck;clear hr0 hck;have hqb:(q == 0) = false:=by simpa using hq
 go_enter Tryd.func72,Tryd.ntmps72;go_wp2_with (fail)
 have hal:Below w.heap.size w (w.alloc (.cells #[.slice A0 l0.length c0,.int .i64 a1] 27)):=(Below.refl _ _).alloc (Nat.le_refl _) _;refine (graph_Check.calls k A0 c0 l0 a1 q p _ (Kd.C_below HR.out hal) hc0 HK.out).mono ?_;rintro e w1 ⟨rfl,hb1⟩;have HB1:=Lib.hid (below_step hal hb1);clear hb1 hal;go_wp2_with (fail)
 go_ret;exact ⟨_,rfl,Kd.R_nil _ _ _ _ _,HB1.out⟩
end
def canon_Numbers.f (k:Nat) (l0_0:List (S40)) (a0_1:Int):Option (List Int) :=
 (graph_Check.f k l0_0 a0_1).bind fun c => if c.1 = 0 then (ordOf l0_0 a0_1).bind fun o => if o.length≤1000000∧(o.all fun x => decide (x < l0_0.length)) = true then some (numsAt l0_0.length o o.length) else none
  else some []
theorem canon_Numbers.calls (k:Nat) (A0_0:Option Addr) (c0_0:Nat) (l0_0:List (S40)) (a0_1:Int) (r:List Int) (w:World) (hr0_0:Kd.C k40 w A0_0 l0_0.length l0_0) (hc0_0:l0_0.length≤c0_0) (h:canon_Numbers.f k l0_0 a0_1 = some r) :
  Calls Tryd.prog 72 #[.agg #[.slice A0_0 l0_0.length c0_0,.int .i64 a0_1]] w fun e w' => ∃ v0_:Value,e = .returned (v0_)∧Kd.R (Kd.int .i64) 3 w' w.heap.size (fun _ => True) v0_ r∧Below w.heap.size w w':=by
 unfold canon_Numbers.f at h
 obtain ⟨⟨q,p⟩,hc,h2⟩:=Option.bind_eq_some_iff.1 h;simp only at h2;split at h2
 ·rename_i hq;subst hq;obtain ⟨o,ho,h3⟩:=Option.bind_eq_some_iff.1 h2;split at h3
  ·rename_i hb;obtain rfl:=Option.some.inj h3;exact numbers_calls k A0_0 c0_0 l0_0 a0_1 w hr0_0 hc0_0 p hc o ho hb.1 (fun x hx => by simpa using List.all_eq_true.1 hb.2 x hx)
  ·cases h3
 ·rename_i hq;obtain rfl:=Option.some.inj h2;exact numbers_none k A0_0 c0_0 l0_0 a0_1 w hr0_0 hc0_0 q p hc hq
def cmp_isNaN_int.f (a0:Int):Option (Bool):=some (a0 != a0)
theorem cmp_isNaN_int.calls (a0:Int) (r:Bool) (w:World) (h:cmp_isNaN_int.f a0 = some r) :
  Calls Tryd.prog 106 #[.int .i64 a0] w fun e w' => e = .returned (.bool r)∧Drawn0 w w':=by
 have H:(some (a0 != a0)) = some r:=h;clear h;obtain rfl:=Option.some.inj H;go_enter Tryd.func106,Tryd.ntmps106;go_wp2
 go_ret;exact ⟨QD,DZ⟩
def cmp_Less_int.f (a0:Int) (a1:Int):Option (Bool):=(cmp_isNaN_int.f a0).bind fun t159 => (if t159 = true then ((cmp_isNaN_int.f a1).bind fun t160 => (if t160 = true then (some (decide (a0 < a1))) else (some true))) else (some (decide (a0 < a1))))
theorem cmp_Less_int.calls (a0:Int) (a1:Int) (r:Bool) (w:World) (h:cmp_Less_int.f a0 a1 = some r) :
  Calls Tryd.prog 97 #[.int .i64 a0,.int .i64 a1] w fun e w' => e = .returned (.bool r)∧Drawn0 w w':=by
 have H:((cmp_isNaN_int.f a0).bind fun t159 => (if t159 = true then ((cmp_isNaN_int.f a1).bind fun t160 => (if t160 = true then (some (decide (a0 < a1))) else (some true))) else (some (decide (a0 < a1))))) = some r:=h;clear h;replace H:=Option.bind_eq_some_iff.mp H;obtain ⟨t159,A30,H⟩:=H;replace H:(if t159 = true then ((cmp_isNaN_int.f a1).bind fun t160 => (if t160 = true then (some (decide (a0 < a1))) else (some true))) else (some (decide (a0 < a1)))) = some r:=H;have A3:=AM A30;clear A30;by_cases c4:t159 = true
 ·subst c4;have H1:((cmp_isNaN_int.f a1).bind fun t160 => (if t160 = true then (some (decide (a0 < a1))) else (some true))) = some r:=by rw [if_pos rfl] at H;exact H
  clear H;have H:=H1;clear H1;replace H:=Option.bind_eq_some_iff.mp H;obtain ⟨t160,A50,H⟩:=H;replace H:(if t160 = true then (some (decide (a0 < a1))) else (some true)) = some r:=H;have A5:=AM A50;clear A50;by_cases c6:t160 = true
  ·subst c6;have H1:(some (decide (a0 < a1))) = some r:=by rw [if_pos rfl] at H;exact H
   clear H;have H:=H1;clear H1;obtain rfl:=Option.some.inj H;go_enter Tryd.func97,Tryd.ntmps97;go_wp2_with (first | ((with_reducible refine gate_callee (f:=106) rfl ?_);refine goesM_ (some 6) rfl rfl Tryd.func106 #[.int .i64 a0] rfl ?_;(with_reducible refine (cmp_isNaN_int.calls a0 true _ A3.out).mono ?_);rintro e w' ⟨rfl,⟨nd,rfl⟩⟩;refine ⟨_,rfl,?_⟩) | (go_at_call 106;(with_reducible refine (cmp_isNaN_int.calls a1 true _ A5.out).mono ?_);rintro e w' ⟨rfl,⟨nd,rfl⟩⟩))
   go_ret;exact ⟨QD,DZ⟩
  ·replace c6:=Bool.eq_false_iff.mpr c6;subst c6;have H1:(some true) = some r:=by rw [if_neg (show ¬ (false = true) by decide)] at H;exact H
   clear H;have H:=H1;clear H1;obtain rfl:=Option.some.inj H;go_enter Tryd.func97,Tryd.ntmps97;go_wp2_with (first | ((with_reducible refine gate_callee (f:=106) rfl ?_);refine goesM_ (some 6) rfl rfl Tryd.func106 #[.int .i64 a0] rfl ?_;(with_reducible refine (cmp_isNaN_int.calls a0 true _ A3.out).mono ?_);rintro e w' ⟨rfl,⟨nd,rfl⟩⟩;refine ⟨_,rfl,?_⟩) | (go_at_call 106;(with_reducible refine (cmp_isNaN_int.calls a1 false _ A5.out).mono ?_);rintro e w' ⟨rfl,⟨nd,rfl⟩⟩))
   go_ret;exact ⟨QD,DZ⟩
 ·replace c4:=Bool.eq_false_iff.mpr c4;subst c4;have H1:(some (decide (a0 < a1))) = some r:=by rw [if_neg (show ¬ (false = true) by decide)] at H;exact H
  clear H;have H:=H1;clear H1;obtain rfl:=Option.some.inj H;go_enter Tryd.func97,Tryd.ntmps97;go_wp2_with (first | ((with_reducible refine gate_callee (f:=106) rfl ?_);refine goesM_ (some 6) rfl rfl Tryd.func106 #[.int .i64 a0] rfl ?_;(with_reducible refine (cmp_isNaN_int.calls a0 false _ A3.out).mono ?_);rintro e w' ⟨rfl,⟨nd,rfl⟩⟩;refine ⟨_,rfl,?_⟩))
  go_ret;exact ⟨QD,DZ⟩
def slices_IsSorted_int_int.l0:Nat→List Int→Int→Option (Bool)
 | 0,_,_ => none
 | k+1,x0,x3 => if x3 > 0 then (if 0≤x3 then (if x3 < (x0.length:Int) then (if 0≤(wrap64 (x3 - 1)) then (if (wrap64 (x3 - 1)) < (x0.length:Int) then ((cmp_Less_int.f (rd x0 x3) (rd x0 (wrap64 (x3 - 1)))).bind fun t163 => (if t163 = true then (some false) else (slices_IsSorted_int_int.l0 k x0 (wrap64 (x3 - 1))))) else (none)) else (none)) else (none)) else (none)) else (some true)
def slices_IsSorted_int_int.f (k:Nat) (l0:List Int):Option (Bool):=slices_IsSorted_int_int.l0 k l0 (wrap64 ((l0.length:Int) - 1))
theorem slices_IsSorted_int_int.calls (k:Nat) (A0:Option Addr) (c0:Nat) (l0:List Int) (r:Bool) (w:World) (hr0:Kd.C (Kd.int .i64) w A0 l0.length l0) (hc0:l0.length≤c0) (h:slices_IsSorted_int_int.f k l0 = some r) :
  Calls Tryd.prog 73 #[.slice A0 l0.length c0] w fun e w' => e = .returned (.bool r)∧Drawn0 w w':=by
 have HR0:=AM hr0;have HC0:=AM hc0;clear hr0 hc0;have H:(slices_IsSorted_int_int.l0 k l0 (wrap64 ((l0.length:Int) - 1))) = some r:=h;clear h;have H':=AM H;clear H;go_enter Tryd.func73,Tryd.ntmps73;go_wp2
 repeat (go_quiet (fail);try go_wp2)
 go_loopg [3] k (fun kq v3 w' => ∃ (x3_1:Int),v3 = .int .i64 x3_1∧Aside0 (slices_IsSorted_int_int.l0 kq l0 x3_1 = some r)∧Aside0 (kq≤k)∧Drawn0 w w')
 case atStart => exact ⟨(wrap64 ((l0.length:Int) - 1)),QD,H',⟨Nat.le_refl _⟩,DZ⟩
 case round =>
  clear H';obtain ⟨x3_1,rfl,HA,HK1,⟨m1,rfl⟩⟩:=hrel;cases gk with
  | zero => exact absurd HA.out (by simp [slices_IsSorted_int_int.l0])
  | succ k1 =>
   have H:=HA.out;clear HA;simp only [slices_IsSorted_int_int.l0] at H;by_cases c2:x3_1 > 0
   ·rw [if_pos c2] at H;have c2b0:decide (0 < x3_1) = true:=decide_eq_true c2;clear c2;by_cases c3:0≤x3_1
    ·rw [if_pos c3] at H;have c3b0:decide (0≤x3_1) = true:=decide_eq_true c3;clear c3;by_cases c4:x3_1 < (l0.length:Int)
     ·rw [if_pos c4] at H;have c4b0:decide (x3_1 < (l0.length:Int)) = true:=decide_eq_true c4;clear c4;obtain ⟨ji5,hji5⟩:∃ j_:Int,(wrap64 (x3_1 - 1)) = j_:=⟨_,rfl⟩;replace H:(if 0≤(ji5) then (if (ji5) < (l0.length:Int) then ((cmp_Less_int.f (rd l0 x3_1) (rd l0 (ji5))).bind fun t163 => (if t163 = true then (some false) else (slices_IsSorted_int_int.l0 k1 l0 ji5))) else (none)) else (none)) = some r:=by first | (rw [hji5] at H;exact H) | (simp only [hji5] at H ⊢;exact H)
      have hji5w:(IntKind.i64.wrap (x3_1 - 1)) = ji5:=(i64_w _).trans hji5;by_cases c6:0≤(ji5)
      ·rw [if_pos c6] at H;have c6b0:decide (0≤(ji5)) = true:=decide_eq_true c6;clear c6;by_cases c7:(ji5) < (l0.length:Int)
       ·rw [if_pos c7] at H;have c7b0:decide ((ji5) < (l0.length:Int)) = true:=decide_eq_true c7;clear c7;replace H:=Option.bind_eq_some_iff.mp H;obtain ⟨t163,A80,H⟩:=H;replace H:(if t163 = true then (some false) else (slices_IsSorted_int_int.l0 k1 l0 ji5)) = some r:=H;have A8:=AM A80;clear A80;by_cases c9:t163 = true
        ·subst c9;have H1:(some false) = some r:=by rw [if_pos rfl] at H;exact H
         clear H;have H:=H1;clear H1;obtain rfl:=Option.some.inj H;have p161:0≤(x3_1:Int):=OD;have q161:x3_1 < (l0.length:Int):=OD;obtain ⟨ad161,e161,hx161_0⟩:=Kd.at_int HR0.out x3_1 p161 q161;cases e161
         replace p161:=eq_true p161;replace q161:=eq_true q161;have p162:0≤((ji5):Int):=OD;have q162:(ji5) < (l0.length:Int):=OD;obtain ⟨ad162,e162,hx162_0⟩:=Kd.at_int HR0.out (ji5) p162 q162;obtain rfl:ad161 = ad162:=(by injection e162);replace p162:=eq_true p162;replace q162:=eq_true q162;go_wp2_with (first | (go_at_call 97;(with_reducible refine (cmp_Less_int.calls (rd l0 x3_1) (rd l0 (ji5)) true _ A8.out).mono ?_);rintro e w' ⟨rfl,⟨nd,rfl⟩⟩;(try first | exact ⟨rfl,_,World.drewN_drewN _ _ _⟩ | exact ⟨rfl,_,Eq.trans (World.drewN_drewN _ _ _) (congrArg (World.drewN _) (Nat.add_assoc _ _ _))⟩)))
         repeat (go_quiet (first | (go_at_call 97;(with_reducible refine (cmp_Less_int.calls (rd l0 x3_1) (rd l0 (ji5)) true _ A8.out).mono ?_);rintro e w' ⟨rfl,⟨nd,rfl⟩⟩;(try first | exact ⟨rfl,_,World.drewN_drewN _ _ _⟩ | exact ⟨rfl,_,Eq.trans (World.drewN_drewN _ _ _) (congrArg (World.drewN _) (Nat.add_assoc _ _ _))⟩)));try go_wp2_with (first | (go_at_call 97;(with_reducible refine (cmp_Less_int.calls (rd l0 x3_1) (rd l0 (ji5)) true _ A8.out).mono ?_);rintro e w' ⟨rfl,⟨nd,rfl⟩⟩;(try first | exact ⟨rfl,_,World.drewN_drewN _ _ _⟩ | exact ⟨rfl,_,Eq.trans (World.drewN_drewN _ _ _) (congrArg (World.drewN _) (Nat.add_assoc _ _ _))⟩))))
         go_ret;exact ⟨by first | rfl | (simp;done) | (simp only [← hji5] <;> (first | rfl | simp)) | (simp [*];done),DZ⟩
        ·replace c9:=Bool.eq_false_iff.mpr c9;subst c9;have H1:(slices_IsSorted_int_int.l0 k1 l0 ji5) = some r:=by rw [if_neg (show ¬ (false = true) by decide)] at H;exact H
         clear H;have H:=H1;clear H1;have H':=AM H;clear H;have p161:0≤(x3_1:Int):=OD;have q161:x3_1 < (l0.length:Int):=OD;obtain ⟨ad161,e161,hx161_0⟩:=Kd.at_int HR0.out x3_1 p161 q161;cases e161
         replace p161:=eq_true p161;replace q161:=eq_true q161;have p162:0≤((ji5):Int):=OD;have q162:(ji5) < (l0.length:Int):=OD;obtain ⟨ad162,e162,hx162_0⟩:=Kd.at_int HR0.out (ji5) p162 q162;obtain rfl:ad161 = ad162:=(by injection e162);replace p162:=eq_true p162;replace q162:=eq_true q162;go_wp2_with (first | (go_at_call 97;(with_reducible refine (cmp_Less_int.calls (rd l0 x3_1) (rd l0 (ji5)) false _ A8.out).mono ?_);rintro e w' ⟨rfl,⟨nd,rfl⟩⟩;(try first | exact ⟨rfl,_,World.drewN_drewN _ _ _⟩ | exact ⟨rfl,_,Eq.trans (World.drewN_drewN _ _ _) (congrArg (World.drewN _) (Nat.add_assoc _ _ _))⟩)))
         repeat (go_quiet (first | (go_at_call 97;(with_reducible refine (cmp_Less_int.calls (rd l0 x3_1) (rd l0 (ji5)) false _ A8.out).mono ?_);rintro e w' ⟨rfl,⟨nd,rfl⟩⟩;(try first | exact ⟨rfl,_,World.drewN_drewN _ _ _⟩ | exact ⟨rfl,_,Eq.trans (World.drewN_drewN _ _ _) (congrArg (World.drewN _) (Nat.add_assoc _ _ _))⟩)));try go_wp2_with (first | (go_at_call 97;(with_reducible refine (cmp_Less_int.calls (rd l0 x3_1) (rd l0 (ji5)) false _ A8.out).mono ?_);rintro e w' ⟨rfl,⟨nd,rfl⟩⟩;(try first | exact ⟨rfl,_,World.drewN_drewN _ _ _⟩ | exact ⟨rfl,_,Eq.trans (World.drewN_drewN _ _ _) (congrArg (World.drewN _) (Nat.add_assoc _ _ _))⟩))))
         go_roundg k1
         case measure => have:=HK1.out;omega
         case rel => exact ⟨(ji5),(by first | rfl | (simp;done) | (simp only [← hji5] <;> (first | rfl | simp)) | (simp [*];done)),H',⟨by have:=HK1.out;omega⟩,DZ⟩
       ·rw [if_neg c7] at H;exact absurd H (by simp)
      ·rw [if_neg c6] at H;exact absurd H (by simp)
     ·rw [if_neg c4] at H;exact absurd H (by simp)
    ·rw [if_neg c3] at H;exact absurd H (by simp)
   ·rw [if_neg c2] at H;have c2b0:decide (0 < x3_1) = false:=decide_eq_false c2;clear c2;obtain rfl:=Option.some.inj H;go_wp2
    repeat (go_quiet (fail);try go_wp2)
    go_ret;exact ⟨QD,DZ⟩
def canon_Is.l0:Nat→List Int→List Int→Int→Int→Option (Bool)
 | 0,_,_,_,_ => none
 | k+1,x3,x8,x9,x10 => if x10 < x9 then (if 0≤x10 then (if x10 < (x8.length:Int) then (if x10 = (rd x8 x10) then (canon_Is.l0 k x3 x8 x9 (wrap64 (x10+1))) else (some false)) else (none)) else (none)) else (if (x3.length:Int) > 0 then ((slices_IsSorted_int_int.f k x3).bind fun t169 => (some t169)) else (some false))
def canon_Is.f (k:Nat) (l0_0:List (S40)) (a0_1:Int):Option (Bool):=(canon_Numbers.f k l0_0 a0_1).bind fun t165 => (canon_Is.l0 k t165 t165 (t165.length:Int) 0)
theorem canon_Is.calls (k:Nat) (A0_0:Option Addr) (c0_0:Nat) (l0_0:List (S40)) (a0_1:Int) (r:Bool) (w:World) (hr0_0:Kd.C k40 w A0_0 l0_0.length l0_0) (hc0_0:l0_0.length≤c0_0) (h:canon_Is.f k l0_0 a0_1 = some r) :
  Calls Tryd.prog 35 #[.agg #[.slice A0_0 l0_0.length c0_0,.int .i64 a0_1]] w fun e w' => e = .returned (.bool r)∧Below w.heap.size w w':=by
 have hu27:=Tryd.underlying27;have HR0_0:=AM hr0_0;have HC0_0:=AM hc0_0;clear hr0_0 hc0_0;have HB:=AM (Below.refl w.heap.size w);have H:((canon_Numbers.f k l0_0 a0_1).bind fun t165 => (canon_Is.l0 k t165 t165 (t165.length:Int) 0)) = some r:=h;clear h;replace H:=Option.bind_eq_some_iff.mp H;obtain ⟨t165,A20,H⟩:=H;replace H:(canon_Is.l0 k t165 t165 (t165.length:Int) 0) = some r:=H;have A2:=AM A20;clear A20;have H':=AM H;clear H;go_enter Tryd.func35,Tryd.ntmps35;go_wp2_with (first | ((with_reducible refine gate_dst (N:=1) rfl ?_);refine boxE 1 #[.slice A0_0 l0_0.length c0_0,.int .i64 a0_1] 27 ?_;intro gb164 hg w3 hbox hb;have BK164:=AM (hbox);have GW164:=GW HB hg;have GE164:=GW HB hg;replace HB:=BS HB hb;clear hb hbox hg;have hcz4_0:=BC BK164 0 (.slice A0_0 l0_0.length c0_0) rfl;have hcz4_1:=BC BK164 1 (.int .i64 a0_1) rfl;have hfz4_0:=BF BK164 0;have hfz4_1:=BF BK164 1) | ((with_reducible refine gate_callee (f:=72) rfl ?_);refine goesM_ (some 7) rfl rfl Tryd.func72 #[.agg #[.slice A0_0 l0_0.length c0_0,.int .i64 a0_1]] rfl ?_;(with_reducible refine (canon_Numbers.calls k _ _ l0_0 a0_1 t165 _ ?side1 ?side2 A2.out).mono ?_);(case side1 => exact Kd.C_below HR0_0.out (BB HB));(case side2 => exact HC0_0.out);rintro e w5 ⟨v166,rfl,ho0,hb⟩;refine ⟨_,rfl,?_⟩;have HO167:=AM (Kd.R_lower ho0 (below_size (BB HB)));replace BK164:=BE BK164 hb;replace HB:=BS HB hb;(try clear hb);(try clear hb2);(try clear hk);(try clear hi);(try clear ho0);obtain ⟨Ao6,co6,eo6⟩:=Kd.R_slice HO167.out;subst eo6))
 go_loopg [10] k (fun kq v10 w' => ∃ (x10_1:Int),v10 = .int .i64 x10_1∧Aside0 (canon_Is.l0 kq t165 t165 (t165.length:Int) x10_1 = some r)∧Aside0 (kq≤k)∧Aside0 (Kd.R (Kd.int .i64) 3 w' w.heap.size (fun _ => True) (.slice Ao6 t165.length co6) t165)∧Aside0 (Kd.R (Kd.int .i64) 3 w' w.heap.size (fun _ => True) (.slice Ao6 t165.length co6) t165)∧Aside0 (w'.heap[gb164]? = some (.cells #[(.slice A0_0 l0_0.length c0_0),.int .i64 a0_1] 27 (0,0)))∧Aside0 (Below w.heap.size w w'))
 case atStart => exact ⟨(0),QD,H',⟨Nat.le_refl _⟩,⟨RA HO167.out⟩,⟨RA HO167.out⟩,⟨BL BK164⟩,⟨BB HB⟩⟩
 case round =>
  clear H';try clear p2
  try clear c3
  try clear hcz4_0
  try clear hcz4_1
  try clear hfz4_0
  try clear hfz4_1
  obtain ⟨x10_1,rfl,HA,HK1,HO_3,HO_8,BK164,HB⟩:=hrel;cases gk with
  | zero => exact absurd HA.out (by simp [canon_Is.l0])
  | succ k1 =>
   have H:=HA.out;clear HA;simp only [canon_Is.l0] at H;by_cases c7:x10_1 < (t165.length:Int)
   ·rw [if_pos c7] at H;have c7b0:decide (x10_1 < (t165.length:Int)) = true:=decide_eq_true c7;clear c7;by_cases c8:0≤x10_1
    ·rw [if_pos c8] at H;have c8b0:decide (0≤x10_1) = true:=decide_eq_true c8;clear c8;by_cases c9:x10_1 < (t165.length:Int)
     ·rw [if_pos c9] at H;have c9b0:decide (x10_1 < (t165.length:Int)) = true:=decide_eq_true c9;clear c9;by_cases c10:x10_1 = (rd t165 x10_1)
      ·rw [if_pos c10] at H;have c10b0:(x10_1 == (rd t165 x10_1)) = true:=beq_iff_eq.mpr c10;have c10b1:(x10_1 != (rd t165 x10_1)) = false:=bne_eq_false_iff_eq.mpr c10;clear c10;have H':=AM H;clear H;have p168:0≤(x10_1:Int):=OD;have q168:x10_1 < (t165.length:Int):=OD;obtain ⟨ad168,e168,hx168_0⟩:=Kd.at_int (Kd.R_reads' HO_8.out).2.2 x10_1 p168 q168;cases e168
       replace p168:=eq_true p168;replace q168:=eq_true q168;go_wp2
       go_roundg k1
       case measure => have:=HK1.out;omega
       case rel => exact ⟨(wrap64 (x10_1+1)),QD,H',⟨by have:=HK1.out;omega⟩,⟨RA HO_3.out⟩,⟨RA HO_8.out⟩,⟨BL BK164⟩,⟨BB HB⟩⟩
      ·rw [if_neg c10] at H;have c10b0:(x10_1 == (rd t165 x10_1)) = false:=beq_eq_false_iff_ne.mpr c10;have c10b1:(x10_1 != (rd t165 x10_1)) = true:=bne_iff_ne.mpr c10;obtain rfl:=Option.some.inj H;have p168:0≤(x10_1:Int):=OD;have q168:x10_1 < (t165.length:Int):=OD;obtain ⟨ad168,e168,hx168_0⟩:=Kd.at_int (Kd.R_reads' HO_8.out).2.2 x10_1 p168 q168;cases e168
       replace p168:=eq_true p168;replace q168:=eq_true q168;go_wp2
       go_ret;exact RT (BB HB)
     ·rw [if_neg c9] at H;exact absurd H (by simp)
    ·rw [if_neg c8] at H;exact absurd H (by simp)
   ·rw [if_neg c7] at H;have c7b0:decide (x10_1 < (t165.length:Int)) = false:=decide_eq_false c7;clear c7;by_cases c11:(t165.length:Int) > 0
    ·rw [if_pos c11] at H;have c11b0:decide (0 < (t165.length:Int)) = true:=decide_eq_true c11;have c11b1:decide (0 < t165.length) = true:=decide_eq_true (by omega);clear c11;replace H:=Option.bind_eq_some_iff.mp H;obtain ⟨t169,A120,H⟩:=H;replace H:(some t169) = some r:=H;have A12:=AM A120;clear A120;obtain rfl:=Option.some.inj H;go_wp2_with (first | (go_at_call 73;(with_reducible refine (slices_IsSorted_int_int.calls k1 _ _ t165 t169 _ ?side1 ?side2 A12.out).mono ?_);(case side1 => exact CR HO_3);(case side2 => exact (Kd.R_reads' HO_3.out).2.1);rintro e w' ⟨rfl,⟨nd,rfl⟩⟩))
     go_ret;exact RT (BB HB)
    ·rw [if_neg c11] at H;have c11b0:decide (0 < (t165.length:Int)) = false:=decide_eq_false c11;have c11b1:decide (0 < t165.length) = false:=decide_eq_false (by omega);clear c11;obtain rfl:=Option.some.inj H;go_wp2
     go_ret;exact RT (BB HB)
def varint_Put.l0:Nat→Int→List Int→Option (ByteArray)
 | 0,_,_ => none
 | k+1,x0,x3 => if x0 ≥ 128 then (if x3.length < 140737488355328 then (varint_Put.l0 k (x0 / 128) (x3 ++ [Go.bits .or .u8 ((x0) % 256) 128])) else (none)) else (if x3.length < 140737488355328 then (some (strOfNums (x3 ++ [(x0) % 256]))) else (none))
def varint_Put.f (k:Nat) (a0:Int):Option (ByteArray):=varint_Put.l0 k a0 ([]:List Int)
theorem varint_Put.calls (k:Nat) (a0:Int) (r:ByteArray) (w:World) (h:varint_Put.f k a0 = some r) :
  Calls Tryd.prog 40 #[.int .u64 a0] w fun e w' => e = .returned (.string r)∧Below w.heap.size w w':=by
 have HB:=AM (Below.refl w.heap.size w);have H:(varint_Put.l0 k a0 ([]:List Int)) = some r:=h;clear h;have H':=AM H;clear H;go_enter Tryd.func40,Tryd.ntmps40;go_wp2
 go_loopg [0,3] k (fun kq v0 v3 w' => ∃ (x0_1:Int) (x3_1:List Int),v0 = .int .u64 x0_1∧Aside0 (varint_Put.l0 kq x0_1 x3_1 = some r)∧Aside0 (kq≤k)∧Aside0 (Kd.R (Kd.int .u8) 5 w' w.heap.size (fun _ => True) v3 x3_1)∧Aside0 (Below w.heap.size w w'))
 case atStart => exact ⟨(a0),(([]:List Int)),QD,H',⟨Nat.le_refl _⟩,⟨by first | exact Kd.R_nil _ _ _ _ _ | exact Kd.N_nil _ _ _ _ _ | exact Kd.V_nil _ _ _ _ _ | exact Kd.Q_nil _ _ _ _ _ | exact Kd.S_nil _ _ _ _ _⟩,⟨BB HB⟩⟩
 case round =>
  clear H';obtain ⟨x0_1,x3_1,rfl,HA,HK1,HO_3,HB⟩:=hrel;cases gk with
  | zero => exact absurd HA.out (by simp [varint_Put.l0])
  | succ k1 =>
   have H:=HA.out;clear HA;simp only [varint_Put.l0] at H;by_cases c2:x0_1 ≥ 128
   ·rw [if_pos c2] at H;have c2b0:decide (128≤x0_1) = true:=decide_eq_true c2;clear c2;by_cases c3:x3_1.length < 140737488355328
    ·rw [if_pos c3] at H;have LMc3:=AM c3;clear c3;obtain ⟨y170,hy170⟩:∃ y_:List Int,y_ = (x3_1 ++ [Go.bits .or .u8 ((x0_1) % 256) 128]):=⟨_,rfl⟩;replace H:(varint_Put.l0 k1 (x0_1 / 128) y170) = some r:=QH hy170 H
     have Ny170:=AM hy170;clear hy170;have H':=AM H;clear H;go_wp2_with (first | ((with_reducible refine gate_builtin (b:=.append) (xs:=#[.tmp 6,.tmp 10]) rfl ?_);at_builtin;refine Kd.R_append (Kd.int .u8) (w0:=w) w.heap.size rfl (.tmp 6) (.tmp 10) 80 5 (.int .u8 0) 1 rfl Tryd.underlying80 info5 rfl (by decide) (by omega) u3 x3_1 (Go.bits .or .u8 ((x0_1) % 256) 128) [.int .u8 (Go.bits .or .u8 ((x0_1) % 256) 128)] (fun _ => True) (fun _ => False) rfl rfl ?aP (fun _ hk => hk.elim) ?aF ?aO ?aB ?aS ?aL ?_;(case aP => exact rfl);(case aB => exact (BB HB));(case aF => exact (fun _ _ => trivial));(case aO => exact (RL HO_3));(case aS => exact (below_size (BB HB)));(case aL => have:=LMc3.out;omega);intro v171 w4 ho hb hg hat;rw [← Ny170.out] at ho;replace HB:=AM (hb);have HO172:=AM (ho);clear HO_3;clear ho hb hg hat))
     go_roundg k1
     case measure => have:=HK1.out;omega
     case rel => exact ⟨(x0_1 / 128),(y170),QD,H',⟨by have:=HK1.out;omega⟩,⟨RA HO172.out⟩,⟨BB HB⟩⟩
    ·rw [if_neg c3] at H;exact absurd H (by simp)
   ·rw [if_neg c2] at H;have c2b0:decide (128≤x0_1) = false:=decide_eq_false c2;clear c2;by_cases c5:x3_1.length < 140737488355328
    ·rw [if_pos c5] at H;have LMc5:=AM c5;clear c5;obtain ⟨y173,hy173⟩:∃ y_:List Int,y_ = (x3_1 ++ [(x0_1) % 256]):=⟨_,rfl⟩;replace H:(some (strOfNums y173)) = some r:=QH hy173 H
     have Ny173:=AM hy173;clear hy173;obtain rfl:=Option.some.inj H;go_wp2_with (first | ((with_reducible refine gate_builtin (b:=.append) (xs:=#[.tmp 14,.tmp 17]) rfl ?_);at_builtin;refine Kd.R_append (Kd.int .u8) (w0:=w) w.heap.size rfl (.tmp 14) (.tmp 17) 80 5 (.int .u8 0) 1 rfl Tryd.underlying80 info5 rfl (by decide) (by omega) u3 x3_1 ((x0_1) % 256) [.int .u8 ((x0_1) % 256)] (fun _ => True) (fun _ => False) rfl rfl ?aP (fun _ hk => hk.elim) ?aF ?aO ?aB ?aS ?aL ?_;(case aP => exact rfl);(case aB => exact (BB HB));(case aF => exact (fun _ _ => trivial));(case aO => exact (RL HO_3));(case aS => exact (below_size (BB HB)));(case aL => have:=LMc5.out;omega);intro v174 w6 ho hb hg hat;rw [← Ny173.out] at ho;replace HB:=AM (hb);have HO175:=AM (ho);clear HO_3;clear ho hb hg hat;have hcv7:=own_string (P:=Tryd.prog) Tryd.underlying80 Tryd.underlying5 Tryd.underlying9 (Kd.own_of_R HO175.out)))
     go_ret;exact RT (BB HB)
    ·rw [if_neg c5] at H;exact absurd H (by simp)
def field_numbers.l0:Nat→List Int→List Int→Int→Int→Option (Bool)
 | 0,_,_,_,_ => none
 | k+1,x1,x12,x13,x14 => if x14 < x13 then (if 0≤x14 then (if x14 < (x12.length:Int) then (if x14 < (x1.length:Int) then ((schema_In.f (rd x1 x14) (rd x12 x14)).bind fun t182 => (if t182 = true then (field_numbers.l0 k x1 x12 x13 (wrap64 (x14+1))) else (some false))) else (none)) else (none)) else (none)) else (some true)
def field_numbers.f (k:Nat) (l0:List Int) (l1:List Int):Option (Bool):=if (l0.length:Int) = (l1.length:Int) then (field_numbers.l0 k l1 l0 (l0.length:Int) 0) else (some false)
theorem field_numbers.calls (k:Nat) (A0:Option Addr) (c0:Nat) (l0:List Int) (A1:Option Addr) (c1:Nat) (l1:List Int) (r:Bool) (w:World) (hr0:Kd.C (Kd.int .i64) w A0 l0.length l0) (hc0:l0.length≤c0) (hr1:Kd.C (Kd.int .i64) w A1 l1.length l1) (hc1:l1.length≤c1) (h:field_numbers.f k l0 l1 = some r) :
  Calls Tryd.prog 80 #[.slice A0 l0.length c0,.slice A1 l1.length c1] w fun e w' => e = .returned (.bool r)∧Drawn0 w w':=by
 have HR0:=AM hr0;have HC0:=AM hc0;clear hr0 hc0;have HR1:=AM hr1;have HC1:=AM hc1;clear hr1 hc1;have H:(if (l0.length:Int) = (l1.length:Int) then (field_numbers.l0 k l1 l0 (l0.length:Int) 0) else (some false)) = some r:=h;clear h;by_cases c3:(l0.length:Int) = (l1.length:Int)
 ·rw [if_pos c3] at H;have c3b0:((l0.length:Int) == (l1.length:Int)) = true:=beq_iff_eq.mpr c3;have c3b1:((l0.length:Int) != (l1.length:Int)) = false:=bne_eq_false_iff_eq.mpr c3;have c3b2:(l0.length == l1.length) = true:=by first | simpa using c3 | (simp at c3 ⊢;omega)
  clear c3;have H':=AM H;clear H;go_enter Tryd.func80,Tryd.ntmps80;go_wp2
  go_loopg [14] k (fun kq v14 w' => ∃ (x14_1:Int),v14 = .int .i64 x14_1∧Aside0 (field_numbers.l0 kq l1 l0 (l0.length:Int) x14_1 = some r)∧Aside0 (kq≤k)∧Drawn0 w w')
  case atStart => exact ⟨(0),QD,H',⟨Nat.le_refl _⟩,DZ⟩
  case round =>
   clear H';try clear c1
   try clear p2
   try clear c3
   try clear c3b0
   try clear c3b1
   try clear c3b2
   obtain ⟨x14_1,rfl,HA,HK1,⟨m1,rfl⟩⟩:=hrel;cases gk with
   | zero => exact absurd HA.out (by simp [field_numbers.l0])
   | succ k1 =>
    have H:=HA.out;clear HA;simp only [field_numbers.l0] at H;by_cases c4:x14_1 < (l0.length:Int)
    ·rw [if_pos c4] at H;have c4b0:decide (x14_1 < (l0.length:Int)) = true:=decide_eq_true c4;clear c4;by_cases c5:0≤x14_1
     ·rw [if_pos c5] at H;have c5b0:decide (0≤x14_1) = true:=decide_eq_true c5;clear c5;by_cases c6:x14_1 < (l0.length:Int)
      ·rw [if_pos c6] at H;have c6b0:decide (x14_1 < (l0.length:Int)) = true:=decide_eq_true c6;clear c6;by_cases c7:x14_1 < (l1.length:Int)
       ·rw [if_pos c7] at H;have c7b0:decide (x14_1 < (l1.length:Int)) = true:=decide_eq_true c7;clear c7;replace H:=Option.bind_eq_some_iff.mp H;obtain ⟨t182,A80,H⟩:=H;replace H:(if t182 = true then (field_numbers.l0 k1 l1 l0 (l0.length:Int) (wrap64 (x14_1+1))) else (some false)) = some r:=H;have A8:=AM A80;clear A80;by_cases c9:t182 = true
        ·subst c9;have H1:(field_numbers.l0 k1 l1 l0 (l0.length:Int) (wrap64 (x14_1+1))) = some r:=by rw [if_pos rfl] at H;exact H
         clear H;have H:=H1;clear H1;have H':=AM H;clear H;have p180:0≤(x14_1:Int):=OD;have q180:x14_1 < (l0.length:Int):=OD;obtain ⟨ad180,e180,hx180_0⟩:=Kd.at_int HR0.out x14_1 p180 q180;cases e180
         replace p180:=eq_true p180;replace q180:=eq_true q180;have p181:0≤(x14_1:Int):=OD;have q181:x14_1 < (l1.length:Int):=OD;obtain ⟨ad181,e181,hx181_0⟩:=Kd.at_int HR1.out x14_1 p181 q181;cases e181
         replace p181:=eq_true p181;replace q181:=eq_true q181;go_wp2_with (first | ((with_reducible refine gate_callee (f:=85) rfl ?_);refine goesM_ (some 24) rfl rfl Tryd.func85 #[.int .i64 (rd l1 x14_1),.int .i64 (rd l0 x14_1)] rfl ?_;(with_reducible refine (schema_In.calls (rd l1 x14_1) (rd l0 x14_1) true _ A8.out).mono ?_);rintro e w' ⟨rfl,⟨nd,rfl⟩⟩;refine ⟨_,rfl,?_⟩))
         go_roundg k1
         case measure => have:=HK1.out;omega
         case rel => exact ⟨(wrap64 (x14_1+1)),QD,H',⟨by have:=HK1.out;omega⟩,DZ⟩
        ·replace c9:=Bool.eq_false_iff.mpr c9;subst c9;have H1:(some false) = some r:=by rw [if_neg (show ¬ (false = true) by decide)] at H;exact H
         clear H;have H:=H1;clear H1;obtain rfl:=Option.some.inj H;have p180:0≤(x14_1:Int):=OD;have q180:x14_1 < (l0.length:Int):=OD;obtain ⟨ad180,e180,hx180_0⟩:=Kd.at_int HR0.out x14_1 p180 q180;cases e180
         replace p180:=eq_true p180;replace q180:=eq_true q180;have p181:0≤(x14_1:Int):=OD;have q181:x14_1 < (l1.length:Int):=OD;obtain ⟨ad181,e181,hx181_0⟩:=Kd.at_int HR1.out x14_1 p181 q181;cases e181
         replace p181:=eq_true p181;replace q181:=eq_true q181;go_wp2_with (first | ((with_reducible refine gate_callee (f:=85) rfl ?_);refine goesM_ (some 24) rfl rfl Tryd.func85 #[.int .i64 (rd l1 x14_1),.int .i64 (rd l0 x14_1)] rfl ?_;(with_reducible refine (schema_In.calls (rd l1 x14_1) (rd l0 x14_1) false _ A8.out).mono ?_);rintro e w' ⟨rfl,⟨nd,rfl⟩⟩;refine ⟨_,rfl,?_⟩))
         go_ret;exact ⟨QD,DZ⟩
       ·rw [if_neg c7] at H;exact absurd H (by simp)
      ·rw [if_neg c6] at H;exact absurd H (by simp)
     ·rw [if_neg c5] at H;exact absurd H (by simp)
    ·rw [if_neg c4] at H;have c4b0:decide (x14_1 < (l0.length:Int)) = false:=decide_eq_false c4;clear c4;obtain rfl:=Option.some.inj H;go_wp2
     go_ret;exact ⟨QD,DZ⟩
 ·rw [if_neg c3] at H;have c3b0:((l0.length:Int) == (l1.length:Int)) = false:=beq_eq_false_iff_ne.mpr c3;have c3b1:((l0.length:Int) != (l1.length:Int)) = true:=bne_iff_ne.mpr c3;have c3b2:(l0.length == l1.length) = false:=by first | simpa using c3 | (simp at c3 ⊢;omega)
  obtain rfl:=Option.some.inj H;go_enter Tryd.func80,Tryd.ntmps80;go_wp2
  go_ret;exact ⟨QD,DZ⟩
end Go.Proofs.YtoigkneoaemcfaaDoor.GN
