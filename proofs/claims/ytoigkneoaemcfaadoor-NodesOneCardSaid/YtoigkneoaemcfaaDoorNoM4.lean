/- Texts of the claim, one behind the other. -/
import Derived.Test.YtoigkneoaemcfaaDoorNoM2
import Derived.Test.YtoigkneoaemcfaaDoorNoGNx2
import Derived.Test.YtoigkneoaemcfaaDoorNoGNx6

namespace Go.Proofs.YtoigkneoaemcfaaDoor.GN
open Go.RowKit Go.Proofs.YtoigkneoaemcfaaDoorW.PrintWords Go.Proofs.YtoigkneoaemcfaaDoorW.PrintLast Go.Proofs.YtoigkneoaemcfaaDoorW.PrintMore
attribute [local go_sem] max2_int min2_int max_two min_two max_three min_three max_four min_four
set_option linter.unusedVariables false
set_option linter.unusedSimpArgs false
def r01_Put.f:Nat→Int→Option (ByteArray)
 | 0,_ => none
 | k+1,a0 => if a0 < 128 then (some (strOfNums (([(a0) % 256]:List Int)))) else ((some (([(IntKind.u64.wrap (128+(Int.tmod a0 128))) % 256]:List Int):List Int)).bind fun y339 => ((r01_Put.f k (IntKind.u64.wrap (Int.tdiv a0 128))).bind fun t342 => (if (strOfNums y339).size+t342.size≤9223372036854775807 then (some ((strOfNums y339) ++ t342)) else (none))))
def r01_Zig.f (a0:Int):Option (Int):=if a0 ≥ 0 then (some (IntKind.u64.wrap (2 * (IntKind.u64.wrap (a0))))) else (some (IntKind.u64.wrap ((IntKind.u64.wrap (2 * (IntKind.u64.wrap (wrap64 (-(wrap64 (a0+1)))))))+1)))
end Go.Proofs.YtoigkneoaemcfaaDoor.GN

namespace Go.Proofs.YtoigkneoaemcfaaDoor.GN
open Go.RowKit Go.Proofs.YtoigkneoaemcfaaDoorW.PrintWords Go.Proofs.YtoigkneoaemcfaaDoorW.PrintLast Go.Proofs.YtoigkneoaemcfaaDoorW.PrintMore
attribute [local go_sem] max2_int min2_int max_two min_two max_three min_three max_four min_four
set_option maxHeartbeats 8000000
set_option maxRecDepth 100000
set_option linter.unusedVariables false
set_option linter.unusedSimpArgs false
section
open Go.Lib
def badT (s:ByteArray):Bool:=decide (0≤U.first s (s.size+1) 0)
def TabsOn (w:World):Prop:=∀ w',Below w.heap.size w w'→Utf8Tabs 0 1 w'
theorem TabsOn.below {w w1:World} (h:TabsOn w) (hb:Below w.heap.size w w1):TabsOn w1:=fun w' h2 => h w' (below_step hb h2)
set_option maxRecDepth 100000 in
theorem check1_calls (s:ByteArray) (w:World) (ht:TabsOn w) (hs:s.size≤140737488351232) :
  Calls Tryd.prog 82 #[.string s] w fun e w' => e = .returned (.bool (badT s))∧Below w.heap.size w w':=by
 have HT:=Lib.hid ht;clear ht;go_enter Tryd.func82,Tryd.ntmps82;go_wp2_with (fail)
 refine (U.First_calls s w HT.out hs).mono ?_;rintro e w1 ⟨rfl,hb1⟩;have HB:=Lib.hid hb1;clear hb1;obtain ⟨z,hz⟩:∃ z,z = U.first s (s.size+1) 0:=⟨_,rfl⟩
 rw [← hz];have HZ:=Lib.hid hz;clear hz;go_wp2_with (fail)
 go_ret;exact ⟨by show Ending.returned (.bool (decide (0≤z))) = _;rw [badT,← HZ.out],HB.out⟩
def idxT:List ByteArray→Int→Int
 | [],_ => -1
 | k :: l,i => if badT k = true then i else idxT l (i+1)
theorem idxT_any:∀ (l:List ByteArray) (i:Int),0≤i→(0≤idxT l i↔l.any badT = true)
 | [],i,_ => by simp [idxT]
 | k :: l,i,hi => by
  rw [idxT,List.any_cons];by_cases hb:badT k = true
  ·rw [if_pos hb,hb];simp [hi]
  ·rw [if_neg hb,idxT_any l (i+1) (by omega)];simp [hb]
set_option maxHeartbeats 4000000 in
set_option maxRecDepth 100000 in
theorem idx_texts (A:Option Addr) (c:Nat) (l:List ByteArray) (w:World) (ht:TabsOn w) (hr:Kd.C Kd.string w A l.length l) (hl:l.length≤8796093022208) (hs:∀ s ∈ l,s.size≤140737488351232) :
  Calls Tryd.prog 100 #[.slice A l.length c,.func (.func 82) #[] #[]] w fun e w' => e = .returned (.int .i64 (idxT l 0))∧Below w.heap.size w w':=by
 have HT:=Lib.hid ht;have HR:=Lib.hid hr;have HS:=Lib.hid hs;clear ht hr hs;go_enter Tryd.func100,Tryd.ntmps100;go_wp2_with (fail)
 go_loopg [8] l.length (fun kq v8 wr => ∃ i:Int,v8 = .int .i64 i∧0≤i∧i+kq = l.length∧Aside0 (idxT (l.drop i.toNat) i = idxT l 0)∧Aside0 (Below w.heap.size w wr))
 case atStart => exact ⟨0,rfl,by omega,by omega,⟨rfl⟩,⟨Below.refl _ _⟩⟩
 case round =>
  obtain ⟨i,rfl,hi0,hik,hidx,hbel⟩:=hrel;by_cases hlt:i < (l.length:Int)
  ·have t0:decide (i < (l.length:Int)) = true:=decide_eq_true hlt;obtain ⟨ad,cs,e,_,hK,hcell⟩:=Kd.C_get (Kd.C_below HR.out hbel.out) ByteArray.empty i hi0 hlt;cases e
   obtain ⟨s,hsd⟩:∃ s,s = l.getD i.toNat ByteArray.empty:=⟨_,rfl⟩;rw [← hsd] at hK;have hx:wr.cell? (ad.add i.toNat) = some (.string s):=by
    have h:cs = [.string s]:=hK;subst h;have h2:=hcell 0 (.string s) rfl;rwa [Nat.add_zero,show Kd.string.sz = 1 from rfl,Nat.mul_one] at h2
   have hsm:s ∈ l:=by rw [hsd,List.getD_eq_getElem?_getD,List.getElem?_eq_getElem (by omega)];exact List.getElem_mem _
   have hd:l.drop i.toNat = s :: l.drop (i.toNat+1):=by
    rw [List.drop_eq_getElem_cons (by omega),hsd,List.getD_eq_getElem?_getD,List.getElem?_eq_getElem (by omega)];rfl
   have hi2:=hidx.out;rw [hd,idxT] at hi2;have HI:=Lib.hid hi2;have HM:=Lib.hid hsm;clear hi2 hd hcell hK hsd hsm;obtain ⟨gk,rfl⟩:∃ g,gk = g+1:=⟨gk - 1,by omega⟩;go_wp2_with (fail)
   refine (check1_calls s wr (HT.out.below hbel.out) (HS.out s HM.out)).mono ?_;rintro e w1 ⟨rfl,hb1⟩;have HB1:=Lib.hid (below_step hbel.out hb1);clear hb1 hx;cases hbk:badT s with
   | true =>
    have HK:=Lib.hid hbk;clear hbk;go_wp2_with (fail)
    go_ret;exact ⟨by show Ending.returned (.int .i64 i) = _;rw [← HI.out,if_pos HK.out],HB1.out⟩
   | false =>
    have HK:=Lib.hid hbk;clear hbk;go_wp2_with (fail)
    go_roundg gk
    case measure => omega
    case rel => exact ⟨i+1,rfl,by omega,by omega,⟨by rw [show (i+1).toNat = i.toNat+1 by omega,← HI.out,if_neg (by rw [HK.out];simp)]⟩,⟨HB1.out⟩⟩
  ·have t0:decide (i < (l.length:Int)) = false:=decide_eq_false hlt;go_wp2_with (fail)
   go_ret;exact ⟨by rw [← hidx.out,List.drop_of_length_le (by omega)];rfl,hbel.out⟩
set_option maxRecDepth 100000 in
theorem contains_texts (A:Option Addr) (c:Nat) (l:List ByteArray) (w:World) (ht:TabsOn w) (hr:Kd.C Kd.string w A l.length l) (hl:l.length≤8796093022208) (hs:∀ s ∈ l,s.size≤140737488351232) :
  Calls Tryd.prog 81 #[.slice A l.length c,.func (.func 82) #[] #[]] w fun e w' => e = .returned (.bool (l.any badT))∧Below w.heap.size w w':=by
 have HT:=Lib.hid ht;have HR:=Lib.hid hr;have HS:=Lib.hid hs;clear ht hr hs;go_enter Tryd.func81,Tryd.ntmps81;go_wp2_with (fail)
 refine (idx_texts A c l w HT.out HR.out hl HS.out).mono ?_;rintro e w1 ⟨rfl,hb1⟩;have HB:=Lib.hid hb1;have he:decide (0≤idxT l 0) = l.any badT:=by
  rw [Bool.eq_iff_iff,decide_eq_true_eq];exact idxT_any l 0 (by omega)
 have HE:=Lib.hid he;clear hb1 he;obtain ⟨z,hz⟩:∃ z,z = idxT l 0:=⟨_,rfl⟩;rw [← hz];have HZ:=Lib.hid hz;clear hz;go_wp2_with (fail)
 go_ret;exact ⟨by show Ending.returned (.bool (decide (0≤z))) = _;rw [← HE.out,← HZ.out],HB.out⟩
def checkV (l0_1:List Int) (l0_2:List ByteArray) (l0_3:List Int) (l1_0:List Int) (a1_1 a1_2 a1_3:Int) (b:Bool):Int :=
 if b = false then 10 else if (l0_2.length:Int)≠a1_1 ∨ l0_2.any badT = true then 11 else if (l0_3.length:Int) < a1_2 ∨ (0≤a1_3∧a1_3 < (l0_3.length:Int)) then 12 else 0
theorem fcheck_calls (k:Nat) (a0_0:Int) (A1:Option Addr) (c1:Nat) (l1:List Int) (A2:Option Addr) (c2:Nat) (l2:List ByteArray) (A3:Option Addr) (c3:Nat) (l3:List Int) (B0:Option Addr) (d0:Nat) (m0:List Int) (n1 n2 n3:Int) (b:Bool) (w:World) (ht:TabsOn w)
  (h1:Kd.C (Kd.int .i64) w A1 l1.length l1) (g1:l1.length≤c1) (h2:Kd.C Kd.string w A2 l2.length l2) (h3:Kd.C (Kd.int .i64) w A3 l3.length l3) (hm:Kd.C (Kd.int .i64) w B0 m0.length m0) (gm:m0.length≤d0) (hn:field_numbers.f k l1 m0 = some b) (hl:l2.length≤8796093022208) (hs:∀ s ∈ l2,s.size≤140737488351232) :
  Calls Tryd.prog 49 #[.agg #[.int .i64 a0_0,.slice A1 l1.length c1,.slice A2 l2.length c2,.slice A3 l3.length c3],.agg #[.slice B0 m0.length d0,.int .i64 n1,.int .i64 n2,.int .i64 n3]] w fun e w' => e = .returned (.int .i64 (checkV l1 l2 l3 m0 n1 n2 n3 b))∧Below w.heap.size w w':=by
 have HT:=Lib.hid ht;have H1:=Lib.hid h1;have H2:=Lib.hid h2;have H3:=Lib.hid h3;have HM:=Lib.hid hm;have HN:=Lib.hid hn;have HS:=Lib.hid hs;clear ht h1 h2 h3 hm hn hs;go_enter Tryd.func49,Tryd.ntmps49;go_upto_region 1 with (fail)
 have hA:=blk_alloc (heap_alloc_new w (.cells #[.int .i64 a0_0,.slice A1 l1.length c1,.slice A2 l2.length c2,.slice A3 l3.length c3] 40)) (.cells #[.slice B0 m0.length d0,.int .i64 n1,.int .i64 n2,.int .i64 n3] 97);have hS:=heap_alloc_new (w.alloc (.cells #[.int .i64 a0_0,.slice A1 l1.length c1,.slice A2 l2.length c2,.slice A3 l3.length c3] 40)) (.cells #[.slice B0 m0.length d0,.int .i64 n1,.int .i64 n2,.int .i64 n3] 97);rw [show (w.alloc (.cells #[.int .i64 a0_0,.slice A1 l1.length c1,.slice A2 l2.length c2,.slice A3 l3.length c3] 40)).heap.size = w.heap.size+1 by simp] at hS;have hB:Below w.heap.size w ((w.alloc (.cells #[.int .i64 a0_0,.slice A1 l1.length c1,.slice A2 l2.length c2,.slice A3 l3.length c3] 40)).alloc (.cells #[.slice B0 m0.length d0,.int .i64 n1,.int .i64 n2,.int .i64 n3] 97)):=((Below.refl _ w).alloc (Nat.le_refl _) _).alloc (by simp) _;generalize ((w.alloc (.cells #[.int .i64 a0_0,.slice A1 l1.length c1,.slice A2 l2.length c2,.slice A3 l3.length c3] 40)).alloc (.cells #[.slice B0 m0.length d0,.int .i64 n1,.int .i64 n2,.int .i64 n3] 97)) = w1 at hA hS hB ⊢;have HA:=Lib.hid hA;have HSp:=Lib.hid hS;have HB:=Lib.hid hB;have p1:w1.cell? ⟨w.heap.size,1,none⟩ = some (.slice A1 l1.length c1):=(blk_cell hA 1).trans rfl;have p2:w1.cell? ⟨w.heap.size+1,0,none⟩ = some (.slice B0 m0.length d0):=(blk_cell hS 0).trans rfl;clear hA hS hB;go_wp2_with (fail)
 refine (field_numbers.calls k A1 c1 l1 B0 d0 m0 b w1 (Kd.C_below H1.out HB.out) g1 (Kd.C_below HM.out HB.out) gm HN.out).mono ?_;rintro e w2 ⟨rfl,hd2⟩;have hb2:Below w1.heap.size w1 w2:=hd2.below;have HA2:=Lib.hid ((hb2.block _ (blk_lt HA.out)).trans HA.out);have HS2:=Lib.hid ((hb2.block _ (blk_lt HSp.out)).trans HSp.out);have HB2:=Lib.hid (below_step HB.out hb2);clear hb2 hd2 p1 p2;have q2:w2.cell? ⟨w.heap.size,2,none⟩ = some (.slice A2 l2.length c2):=(blk_cell HA2.out 2).trans rfl;have q3:w2.cell? ⟨w.heap.size,3,none⟩ = some (.slice A3 l3.length c3):=(blk_cell HA2.out 3).trans rfl;have s1:w2.cell? ⟨w.heap.size+1,1,none⟩ = some (.int .i64 n1):=(blk_cell HS2.out 1).trans rfl;have s2:w2.cell? ⟨w.heap.size+1,2,none⟩ = some (.int .i64 n2):=(blk_cell HS2.out 2).trans rfl;have s3:w2.cell? ⟨w.heap.size+1,3,none⟩ = some (.int .i64 n3):=(blk_cell HS2.out 3).trans rfl;cases b with
 | false =>
  go_wp2_with (fail)
  go_ret;exact ⟨by show Ending.returned (.int .i64 10) = _;unfold checkV;rw [if_pos rfl],HB2.out⟩
 | true =>
  by_cases hne:(l2.length:Int) = n1
  ·have u1:decide ((l2.length:Int) = n1) = true:=decide_eq_true hne;have u1b:((l2.length:Int) == n1) = true:=by simpa using hne
   have HNE:=Lib.hid hne;clear hne;go_wp2_with (fail)
   refine (contains_texts A2 c2 l2 w2 (HT.out.below HB2.out) (Kd.C_below H2.out HB2.out) hl HS.out).mono ?_;rintro e w3 ⟨rfl,hb3⟩;have HA3:=Lib.hid ((hb3.block _ (blk_lt HA2.out)).trans HA2.out);have HS3:=Lib.hid ((hb3.block _ (blk_lt HS2.out)).trans HS2.out);have HB3:=Lib.hid (below_step HB2.out hb3);clear hb3 q2 q3 s1 s2 s3;have q3:w3.cell? ⟨w.heap.size,3,none⟩ = some (.slice A3 l3.length c3):=(blk_cell HA3.out 3).trans rfl;have s2:w3.cell? ⟨w.heap.size+1,2,none⟩ = some (.int .i64 n2):=(blk_cell HS3.out 2).trans rfl;have s3:w3.cell? ⟨w.heap.size+1,3,none⟩ = some (.int .i64 n3):=(blk_cell HS3.out 3).trans rfl;cases hbt:l2.any badT with
   | true =>
    have HBT:=Lib.hid hbt;clear hbt;go_wp2_with (fail)
    go_ret;exact ⟨by show Ending.returned (.int .i64 11) = _;unfold checkV;rw [if_neg (by simp),if_pos (.inr HBT.out)],HB3.out⟩
   | false =>
    have HBT:=Lib.hid hbt;clear hbt;have hno:¬ ((l2.length:Int)≠n1 ∨ l2.any badT = true):=fun h => h.elim (fun h => h HNE.out) (fun h => by rw [HBT.out] at h;cases h)
    have HNO:=Lib.hid hno;clear hno;by_cases x1:(l3.length:Int) < n2
    ·have v1:decide ((l3.length:Int) < n2) = true:=decide_eq_true x1;have X1:=Lib.hid x1;clear x1;go_wp2_with (fail)
     go_ret;exact ⟨by show Ending.returned (.int .i64 12) = _;unfold checkV;rw [if_neg (by simp),if_neg HNO.out,if_pos (.inl X1.out)],HB3.out⟩
    ·have v1:decide ((l3.length:Int) < n2) = false:=decide_eq_false x1;have X1:=Lib.hid x1;clear x1;by_cases x2:0≤n3
     ·have v2:decide (0≤n3) = true:=decide_eq_true x2;have X2:=Lib.hid x2;clear x2;by_cases x3:n3 < (l3.length:Int)
      ·have v3:decide (n3 < (l3.length:Int)) = true:=decide_eq_true x3;have X3:=Lib.hid x3;clear x3;go_wp2_with (fail)
       go_ret;exact ⟨by show Ending.returned (.int .i64 12) = _;unfold checkV;rw [if_neg (by simp),if_neg HNO.out,if_pos (.inr ⟨X2.out,X3.out⟩)],HB3.out⟩
      ·have v3:decide (n3 < (l3.length:Int)) = false:=decide_eq_false x3;have X3:=Lib.hid x3;clear x3;go_wp2_with (fail)
       go_ret;exact ⟨by show Ending.returned (.int .i64 0) = _;unfold checkV;rw [if_neg (by simp),if_neg HNO.out,if_neg (fun h => by have h1:=X1.out;have h3:=X3.out;omega)],HB3.out⟩
     ·have v2:decide (0≤n3) = false:=decide_eq_false x2;have X2:=Lib.hid x2;clear x2;go_wp2_with (fail)
      go_ret;exact ⟨by show Ending.returned (.int .i64 0) = _;unfold checkV;rw [if_neg (by simp),if_neg HNO.out,if_neg (fun h => by have h1:=X1.out;have h3:=X2.out;omega)],HB3.out⟩
  ·have u1:decide ((l2.length:Int) = n1) = false:=decide_eq_false hne;have u1b:((l2.length:Int) == n1) = false:=by simpa using hne
   have HNE:=Lib.hid hne;clear hne;go_wp2_with (fail)
   go_ret;exact ⟨by show Ending.returned (.int .i64 11) = _;unfold checkV;rw [if_neg (by simp),if_pos (.inl HNE.out)],HB2.out⟩
end
def field_Check.f (k:Nat) (a0_0:Int) (l0_1:List Int) (l0_2:List ByteArray) (l0_3:List Int) (l1_0:List Int) (a1_1 a1_2 a1_3:Int):Option Int:=(field_numbers.f k l0_1 l1_0).bind fun b => if l0_2.length≤8796093022208∧(l0_2.all fun s => decide (s.size≤70368744177664)) = true then some (checkV l0_1 l0_2 l0_3 l1_0 a1_1 a1_2 a1_3 b) else none
theorem field_Check.calls (k:Nat) (a0_0:Int) (A0_1:Option Addr) (c0_1:Nat) (l0_1:List Int) (A0_2:Option Addr) (c0_2:Nat) (l0_2:List ByteArray) (A0_3:Option Addr) (c0_3:Nat) (l0_3:List Int) (A1_0:Option Addr) (c1_0:Nat) (l1_0:List Int) (a1_1:Int) (a1_2:Int) (a1_3:Int) (r:Int) (w:World) (ht_:∀ w',Below w.heap.size w w'→Go.Lib.Utf8Tabs 0 1 w') (hr0_1:Kd.C (Kd.int .i64) w A0_1 l0_1.length l0_1) (hc0_1:l0_1.length≤c0_1) (hr0_2:Kd.C Kd.string w A0_2 l0_2.length l0_2) (hc0_2:l0_2.length≤c0_2) (hr0_3:Kd.C (Kd.int .i64) w A0_3 l0_3.length l0_3) (hc0_3:l0_3.length≤c0_3) (hr1_0:Kd.C (Kd.int .i64) w A1_0 l1_0.length l1_0) (hc1_0:l1_0.length≤c1_0) (h:field_Check.f k a0_0 l0_1 l0_2 l0_3 l1_0 a1_1 a1_2 a1_3 = some r) :
  Calls Tryd.prog 49 #[.agg #[.int .i64 a0_0,.slice A0_1 l0_1.length c0_1,.slice A0_2 l0_2.length c0_2,.slice A0_3 l0_3.length c0_3],.agg #[.slice A1_0 l1_0.length c1_0,.int .i64 a1_1,.int .i64 a1_2,.int .i64 a1_3]] w fun e w' => e = .returned (.int .i64 r)∧Below w.heap.size w w':=by
 unfold field_Check.f at h
 obtain ⟨b,hn,h2⟩:=Option.bind_eq_some_iff.1 h;split at h2
 ·rename_i hq;obtain rfl:=Option.some.inj h2;exact fcheck_calls k a0_0 A0_1 c0_1 l0_1 A0_2 c0_2 l0_2 A0_3 c0_3 l0_3 A1_0 c1_0 l1_0 a1_1 a1_2 a1_3 b w ht_ hr0_1 hc0_1 hr0_2 hr0_3 hr1_0 hc1_0 hn hq.1 (fun s hs => by have:=List.all_eq_true.1 hq.2 s hs;simp at this;omega)
 ·cases h2
def varint_Zig.f (a0:Int):Option (Int):=some (Go.bits .xor .u64 (IntKind.u64.wrap ((IntKind.u64.wrap (a0)) * 2)) (IntKind.u64.wrap (a0 / 9223372036854775808)))
theorem varint_Zig.calls (a0:Int) (r:Int) (w:World) (h:varint_Zig.f a0 = some r) :
  Calls Tryd.prog 50 #[.int .i64 a0] w fun e w' => e = .returned (.int .u64 r)∧Drawn0 w w':=by
 have H:(some (Go.bits .xor .u64 (IntKind.u64.wrap ((IntKind.u64.wrap (a0)) * 2)) (IntKind.u64.wrap (a0 / 9223372036854775808)))) = some r:=h;clear h;obtain rfl:=Option.some.inj H;go_enter Tryd.func50,Tryd.ntmps50;go_wp2
 go_ret;exact ⟨QD,DZ⟩
def limit_Typed.l0:Nat→List (S40)→Int→Int→Option (Int × Int)
 | 0,_,_,_ => none
 | k+1,x10,x11,x12 => if x12 < x11 then (if 0≤x12 then (if x12 < (x10.length:Int) then ((schema_New.f ((rd_T40 x10 x12).f0)).bind fun bt186 => (if bt186.2.2.2.2 = true then ((field_Check.f k ((rd_T40 x10 x12).f0) ((rd_T40 x10 x12).f1) ((rd_T40 x10 x12).f2) ((rd_T40 x10 x12).f3) bt186.1 bt186.2.1 bt186.2.2.1 bt186.2.2.2.1).bind fun t194 => (if t194 = 0 then (limit_Typed.l0 k x10 x11 (wrap64 (x12+1))) else (some (t194,x12)))) else (some (9,x12)))) else (none)) else (none)) else (some (0,0))
def limit_Typed.f (k:Nat) (l0_0:List (S40)) (a0_1:Int):Option (Int × Int):=limit_Typed.l0 k l0_0 (l0_0.length:Int) 0
end Go.Proofs.YtoigkneoaemcfaaDoor.GN
