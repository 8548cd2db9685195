/- Texts of the claim, one behind the other. -/
import Derived.Test.YtoigkneoaemcfaaDoorNoM3
import Derived.Test.YtoigkneoaemcfaaDoorNoGNx6
import Derived.Test.YtoigkneoaemcfaaDoorNoM4
import Derived.Test.YtoigkneoaemcfaaDoorNoTab
import Derived.Test.YtoigkneoaemcfaaDoorNoBd
import Derived.Deep.LoopGhost
import Derived.Test.YtoigkneoaemcfaaDoorNoM2
namespace Go.Proofs.YtoigkneoaemcfaaDoor.Cur
open Go.RowKit Go.Proofs.YtoigkneoaemcfaaDoorW.PrintWords Go.Proofs.YtoigkneoaemcfaaDoorW.PrintLast Go.Proofs.YtoigkneoaemcfaaDoorW.PrintMore Go.Proofs.YtoigkneoaemcfaaDoor.VM Go.Proofs.YtoigkneoaemcfaaDoor.B
section
open Go.Proofs.YtoigkneoaemcfaaDoor.GN
def put (n:Nat):ByteArray:=strOfNums ((enc n).map Int.ofNat)
theorem bl_put (n:Nat):bl (put n) = enc n:=bl_strOfNums _ (enc_byte n)
theorem put_size (n:Nat):(put n).size = (enc n).length:=by rw [← bl_length,bl_put]
theorem put_l0 (n:Nat):∀ (k:Nat) (x3:List Int),n < 18446744073709551616→(enc n).length < k→x3.length+(enc n).length≤1000 →
    varint_Put.l0 k (n:Int) x3 = some (strOfNums (x3 ++ (enc n).map Int.ofNat)):=by
  induction n using enc.induct with
  | case1 n h =>
    intro k x3 hn hk hx
    obtain ⟨k,rfl⟩:∃ m,k = m+1:=⟨k - 1,by omega⟩
    simp only [varint_Put.l0]
    rw [if_neg (by omega),if_pos (by omega),enc_small h]
    rw [show ((n:Int) % 256) = Int.ofNat n by simp;omega];rfl
  | case2 n h ih =>
    intro k x3 hn hk hx
    obtain ⟨k,rfl⟩:∃ m,k = m+1:=⟨k - 1,by omega⟩
    rw [enc_big h] at hk hx ⊢
    simp only [List.length_cons] at hk hx
    simp only [varint_Put.l0]
    rw [if_pos (by omega),if_pos (by omega)]
    rw [show ((n:Int) / 128) = ((n / 128:Nat):Int) by omega,ih k _ (by omega) (by omega) (by simp;omega),or_128]
    rw [show (128+(n:Int) % 128) = Int.ofNat (128+n % 128) by simp]
    simp [List.append_assoc]
theorem put_f (n k:Nat) (hn:n < 18446744073709551616) (hk:11≤k):varint_Put.f k (n:Int) = some (put n):=by
  unfold varint_Put.f put
  have:=enc_length_u64 hn
  rw [put_l0 n k [] hn (by omega) (by simp;omega)];rfl
theorem put_calls (n:Nat) (h:n < 18446744073709551616) (w:World) :
    Calls Tryd.prog 40 #[.int .u64 n] w fun e w' => e = .returned (.string (put n))∧Below w.heap.size w w' :=
  varint_Put.calls 100 n _ w (put_f n 100 h (by omega))
end
section
open Go.Proofs.YtoigkneoaemcfaaDoor.GN
theorem zig_f (n:Int) (h0:-9223372036854775808≤n) (h1:n≤9223372036854775807):varint_Zig.f n = some (zg n):=by
  unfold varint_Zig.f zg
  congr 1
  by_cases h:0≤n
  · rw [if_pos h,show n / 9223372036854775808 = 0 by omega,show IntKind.u64.wrap 0 = 0 by decide,xor_zero]
    simp only [u64_wrap,show IntKind.u64.bits = 64 from rfl]
    omega
  · rw [if_neg h,show n / 9223372036854775808 = -1 by omega,xor_ones _ _ _ (by decide +kernel)]
    simp only [u64_wrap,show IntKind.u64.bits = 64 from rfl]
    omega
theorem zig_calls (n:Int) (h0:-9223372036854775808≤n) (h1:n≤9223372036854775807) (w:World) :
    Calls Tryd.prog 50 #[.int .i64 n] w fun e w' => e = .returned (.int .u64 (zg n))∧Drawn0 w w' :=
  varint_Zig.calls n _ w (zig_f n h0 h1)
end
theorem put_size_le {n:Nat} (h:n < 18446744073709551616):(put n).size≤10:=by rw [put_size];exact enc_length_u64 h
theorem gt_put (b:ByteArray) (at' v:Nat) (pre post:List Nat) (hv:v < 18446744073709551616) (hb:bl b = pre ++ (enc v ++ post)) (hp:pre.length = at'):gt b at' = ((v:Int),((at'+(enc v).length:Nat):Int),0):=by
  unfold gt
  rw [hb,List.drop_left' hp,dec_enc v 0 post (by simpa using hv) (by omega) (by omega)]
  simp only [got,Prod.mk.injEq,and_true,true_and]
  omega
end Go.Proofs.YtoigkneoaemcfaaDoor.Cur
namespace Go.Proofs.YtoigkneoaemcfaaDoor.Tab
open Go.RowKit Go.Lib Go.Proofs.YtoigkneoaemcfaaDoorW.PrintWords Go.Proofs.YtoigkneoaemcfaaDoorW.PrintLast Go.Proofs.YtoigkneoaemcfaaDoorW.PrintMore Go.Proofs.YtoigkneoaemcfaaDoor.B Go.Proofs.YtoigkneoaemcfaaDoor.Bd
set_option linter.unusedVariables false
set_option linter.unusedSimpArgs false
def tabB (l:List ByteArray):ByteArray:=l.foldl (fun o s => o ++ (Cur.put s.size ++ s)) (Cur.put l.length)
def tabN (l:List ByteArray) (i:Nat):ByteArray:=(l.take i).foldl (fun o s => o ++ (Cur.put s.size ++ s)) (Cur.put l.length)
theorem tabN_succ (l:List ByteArray) {i:Nat} (hi:i < l.length):tabN l (i+1) = tabN l i ++ (Cur.put (l.getD i ⟨#[]⟩).size ++ l.getD i ⟨#[]⟩):=by
  unfold tabN
  rw [List.take_succ_eq_append_getElem hi,List.foldl_append,List.getD_eq_getElem?_getD,List.getElem?_eq_getElem hi]
  rfl
theorem tabN_all (l:List ByteArray):tabN l l.length = tabB l:=by unfold tabN tabB;rw [List.take_length]
theorem size_le_total:∀ (l:List ByteArray) (i:Nat),(l.getD i ⟨#[]⟩).size≤total l
  | [],i => by
    have e_:(⟨#[]⟩:ByteArray).size = 0:=rfl
    simp [e_]
  | x :: l,0 => by simp [total]
  | x :: l,i+1 => by
    have:=size_le_total l i
    simp only [List.getD_cons_succ]
    unfold total at this ⊢
    simp only [List.map_cons,List.sum_cons]
    omega
theorem fold_size:∀ (l:List ByteArray) (o:ByteArray),(∀ x ∈ l,x.size≤1000000000)→(l.foldl (fun o s => o ++ (Cur.put s.size ++ s)) o).size≤o.size+10 * l.length+total l
  | [],o,_ => by simp [total]
  | x :: l,o,h => by
    have h1:=fold_size l (o ++ (Cur.put x.size ++ x)) (fun y hy => h y (List.mem_cons_of_mem _ hy))
    have h2:=Cur.put_size_le (n:=x.size) (by have:=h x List.mem_cons_self;omega)
    simp only [List.foldl_cons]
    rw [ByteArray.size_append,ByteArray.size_append] at h1
    have e:total (x :: l) = x.size+total l:=by simp [total]
    rw [e,List.length_cons]
    omega
theorem fold_ge:∀ (l:List ByteArray) (o:ByteArray),o.size≤(l.foldl (fun o s => o ++ (Cur.put s.size ++ s)) o).size
  | [],o => Nat.le_refl _
  | x :: l,o => by
    have h1:=fold_ge l (o ++ (Cur.put x.size ++ x))
    simp only [List.foldl_cons]
    rw [ByteArray.size_append] at h1
    omega
theorem tabN_size (l:List ByteArray) (i:Nat) (hl:l.length≤1000000) (ht:total l≤1000000000):(tabN l i).size≤2000000000:=by
  have hx:∀ x ∈ l.take i,x.size≤1000000000:=fun x hx => by
    obtain ⟨j,hj⟩:=List.getElem?_of_mem (List.mem_of_mem_take hx)
    have:=size_le_total l j
    rw [List.getD_eq_getElem?_getD,hj] at this
    simp at this
    omega
  have h1:=fold_size (l.take i) (Cur.put l.length) hx
  have h2:=Cur.put_size_le (n:=l.length) (by omega)
  have h3:total (l.take i)≤total l:=by
    have:=congrArg total (List.take_append_drop i l)
    unfold total at this ⊢
    rw [List.map_append,List.sum_append] at this
    omega
  have h4:(l.take i).length≤l.length:=by simp;omega
  unfold tabN
  omega
set_option maxHeartbeats 4000000 in
set_option maxRecDepth 100000 in
theorem put_calls (F:Nat→Prop) (p:Nat) (l:List ByteArray) (w:World) (h:IsTab w F p l) (hl:l.length≤1000000) (ht:total l≤1000000000) :
    Calls Tryd.prog 41 #[.pointer (some ⟨p,0,none⟩)] w fun e w' => e = .returned (.string (tabB l))∧Below w.heap.size w w':=by
  obtain ⟨b,v,hp,ho,hi,hF⟩:=h
  obtain ⟨a,c,rfl⟩:∃ a c,v = .slice a l.length c:=by
    rcases ho.2 with ⟨hv,h0⟩ | ⟨g,cap,cur,hv,_⟩
    · exact ⟨none,0,by rw [hv,h0]⟩
    · exact ⟨_,_,hv⟩
  have c0:w.cell? ⟨p,0,none⟩ = some (.slice a l.length c):=(blk_cell hp 0).trans rfl
  have hpn:p < w.heap.size:=blk_lt hp
  have hp0:=blk_alloc hp (.cells #[.pointer none,.slice none 0 0] 82)
  have c0a:(w.alloc (.cells #[.pointer none,.slice none 0 0] 82)).cell? ⟨p,0,none⟩ = some (.slice a l.length c):=(blk_cell hp0 0).trans rfl
  have HO:=Lib.hid ho
  have HP:=Lib.hid hp0
  clear hi hF ho hp hp0
  go_enter Tryd.func41,Tryd.ntmps41
  go_wp2_with (fail)
  refine (Cur.put_calls l.length (by omega) _).mono ?_
  rintro e w1 ⟨rfl,hb1⟩
  have hB1:=(IsBd.new w).below hb1
  have hP1:=blk_below HP.out hb1
  have hW1:Below w.heap.size w w1:=below_step ((Below.refl _ w).alloc (Nat.le_refl _) _) hb1
  have HB1:=Lib.hid hB1
  have HW1:=Lib.hid hW1
  have HP1:=Lib.hid hP1
  clear hB1 hW1 hP1 hb1 c0 c0a
  go_wp2_with (fail)
  refine (write_calls _ _ _ (Cur.put l.length) _ HB1.out (by have:=Cur.put_size_le (n:=l.length) (by omega);have e_:(⟨#[]⟩:ByteArray).size = 0:=rfl;omega)).mono ?_
  rintro e w2 ⟨rfl,F2,hB2,hM2,hF2⟩
  have hs2:∀ k,F2 k→w.heap.size≤k:=fun k hk => by
    rcases hF2 k hk with h | h
    · obtain rfl:k = w.heap.size:=h
      exact Nat.le_refl _
    · exact Nat.le_trans HW1.out.size h
  have hP2:=hM2.keep HP1.out (fun h => by obtain rfl:p = w.heap.size:=h;omega)
  have hW2:Below w.heap.size w w2:=(((Mv.of_below (S:=one w.heap.size) HW1.out).trans hM2 (fun k hk => .inl hk)).below (fun k hk => by obtain rfl:k = w.heap.size:=hk;exact Nat.le_refl _))
  have c2:w2.cell? ⟨p,0,none⟩ = some (.slice a l.length c):=(blk_cell hP2 0).trans rfl
  have HB2:=Lib.hid hB2
  have HW2:=Lib.hid hW2
  clear hB2 hM2 hF2 hP2 hW2
  go_wp2_with (fail)
  have HB20:Hid (IsBd w2 F2 w.heap.size (tabN l (0:Int).toNat)):=by
    have e_:tabN l (0:Int).toNat = (⟨#[]⟩:ByteArray) ++ Cur.put l.length:=by
      have:tabN l (0:Int).toNat = Cur.put l.length:=rfl
      rw [this]
      first | exact (ByteArray.empty_append).symm | (ext1;simp)
    rw [e_];exact HB2
  go_loopg [5,19] l.length (fun kq v5 v19 wr => ∃ (i:Int) (x:Value) (Fq:Nat→Prop),v5 = x∧v19 = .int .i64 i∧0≤i∧i+kq = l.length∧Aside0 (IsBd wr Fq w.heap.size (tabN l i.toNat))∧Aside0 (∀ k,Fq k→w.heap.size≤k)∧Aside0 (Below w.heap.size w wr))
  case atStart => exact ⟨0,_,F2,rfl,rfl,by omega,by omega,⟨HB20.out⟩,⟨hs2⟩,⟨HW2.out⟩⟩
  case round =>
    obtain ⟨i,x,Fq,rfl,rfl,hi0,hik,hB,hF,hW⟩:=hrel
    obtain ⟨wo,hwo⟩:∃ z,z = wr:=⟨_,rfl⟩
    subst hwo
    by_cases hlt:i < (l.length:Int)
    · have t4:decide (i < (l.length:Int)) = true:=decide_eq_true hlt
      obtain ⟨ko,rfl⟩:∃ g,gk = g+1:=⟨gk - 1,by omega⟩
      obtain ⟨g,cap,hv,_,_⟩:=HO.out.form (by omega)
      cases hv
      have cw:w.cell? ⟨g,i.toNat,none⟩ = some (.string (l.getD i.toNat ⟨#[]⟩)):=by
        rw [HO.out.cellAt i.toNat (by omega),List.getElem?_map,List.getD_eq_getElem?_getD,List.getElem?_eq_getElem (by omega)]
        rfl
      have c1:=(hW.out.cell (World.block_lt_of_cell? w _ cw)).trans cw
      have hsz:=size_le_total l i.toNat
      have hsucc:=Lib.hid (tabN_succ l (i:=i.toNat) (by omega))
      have hnn:=tabN_size l i.toNat hl ht
      clear cw
      generalize l.getD i.toNat ⟨#[]⟩ = y at *
      go_wp2_with (fail)
      refine (Cur.put_calls y.size (by omega) _).mono ?_
      rintro e w3 ⟨rfl,hb3⟩
      have HB3:=Lib.hid (hB.out.below hb3)
      have HW3:=Lib.hid (below_step hW.out hb3)
      clear hb3
      have hps:=Cur.put_size_le (n:=y.size) (by omega)
      have hsb1:decide ((Cur.put y.size).size+y.size≤9223372036854775807) = true:=decide_eq_true (by omega)
      have hsb2:(9223372036854775807 < (Cur.put y.size).size+y.size) = False:=eq_false (by omega)
      go_wp2_with (fail)
      refine (write_calls Fq w.heap.size (tabN l i.toNat) (Cur.put y.size ++ y) _ HB3.out (by have:=Cur.put_size_le (n:=y.size) (by omega);rw [ByteArray.size_append];omega)).mono ?_
      rintro e w4 ⟨rfl,F4,hB4,hM4,hF4⟩
      have hs4:∀ k,F4 k→w.heap.size≤k:=fun k hk => by
        rcases hF4 k hk with h | h
        · exact hF.out k h
        · exact Nat.le_trans HW3.out.size h
      have hW4:Below w.heap.size w w4:=((Mv.of_below (S:=Fq) HW3.out).trans hM4 (fun k hk => .inl hk)).below hF.out
      have HB4:=Lib.hid hB4
      have HW4:=Lib.hid hW4
      have HS4:=Lib.hid hs4
      clear hB4 hM4 hF4 hW4 hs4
      go_wp2_with (fail)
      go_roundg ko
      case measure => omega
      case rel => exact ⟨i+1,_,F4,rfl,rfl,by omega,by omega,⟨by rw [show (i+1).toNat = i.toNat+1 by omega,hsucc.out];exact HB4.out⟩,⟨HS4.out⟩,⟨HW4.out⟩⟩
    · have t4:decide (i < (l.length:Int)) = false:=decide_eq_false hlt
      have he:tabN l i.toNat = tabB l:=by rw [show i.toNat = l.length by omega];exact tabN_all l
      go_wp2_with (fail)
      refine (string_calls Fq w.heap.size (tabB l) _ (by rw [← he];exact hB.out) ?_).mono ?_
      · have h1:=fold_ge l (Cur.put l.length)
        have h2:=Cur.put_size l.length
        have h3:=VM.enc_ne l.length
        have h4:(VM.enc l.length).length≠0:=fun h => h3 (List.length_eq_zero_iff.1 h)
        unfold tabB
        omega
      rintro e w5 ⟨rfl,hM5⟩
      have hW5:Below w.heap.size w w5:=((Mv.of_below (S:=Fq) hW.out).trans hM5 (fun k hk => .inl hk)).below hF.out
      go_wp2_with (fail)
      go_ret
      exact ⟨rfl,hW5⟩
end Go.Proofs.YtoigkneoaemcfaaDoor.Tab

namespace Go.Proofs.YtoigkneoaemcfaaDoor.GN
open Go.RowKit Go.Proofs.YtoigkneoaemcfaaDoorW.PrintWords Go.Proofs.YtoigkneoaemcfaaDoorW.PrintLast Go.Proofs.YtoigkneoaemcfaaDoorW.PrintMore
attribute [local go_sem] max2_int min2_int max_two min_two max_three min_three max_four min_four
set_option linter.unusedVariables false
set_option linter.unusedSimpArgs false
mutual
def r01_Get.j0:Nat→ByteArray→Int→Bool→Option (Int × Int × Int)
 | 0,_,_,_ => none
 | k+1,x0,x1,x18 => if x18 = true then (some (0,0,1)) else (r01_Get.l0 k x0 x1 0 1 x1)
def r01_Get.l0:Nat→ByteArray→Int→Int→Int→Int→Option (Int × Int × Int)
 | 0,_,_,_,_,_ => none
 | k+1,x0,x1,x7,x8,x9 => if x9 < (x0.size:Int) then (if 0≤x9 then (if (wrap64 (x9 - x1)) = 9 then (r01_Get.j2 k x0 x1 x7 x8 x9 (bt x0 x9) (decide ((bt x0 x9) > 1))) else (r01_Get.j2 k x0 x1 x7 x8 x9 (bt x0 x9) false)) else (none)) else (some (0,0,2))
def r01_Get.j2:Nat→ByteArray→Int→Int→Int→Int→Int→Bool→Option (Int × Int × Int)
 | 0,_,_,_,_,_,_,_ => none
 | k+1,x0,x1,x7,x8,x9,x10,x36 => if x36 = true then (some (0,0,3)) else (if x10 = 0 then (r01_Get.j3 k x0 x1 x7 x8 x9 x10 (decide (x9 > x1))) else (r01_Get.j3 k x0 x1 x7 x8 x9 x10 false))
def r01_Get.j3:Nat→ByteArray→Int→Int→Int→Int→Int→Bool→Option (Int × Int × Int)
 | 0,_,_,_,_,_,_,_ => none
 | k+1,x0,x1,x7,x8,x9,x10,x43 => if x43 = true then (some (0,0,3)) else (if x10 < 128 then (some (IntKind.u64.wrap (x7+(IntKind.u64.wrap (x8 * (IntKind.u64.wrap (Int.tmod x10 128))))),wrap64 (x9+1),0)) else (r01_Get.l0 k x0 x1 (IntKind.u64.wrap (x7+(IntKind.u64.wrap (x8 * (IntKind.u64.wrap (Int.tmod x10 128)))))) (IntKind.u64.wrap (x8 * 128)) (wrap64 (x9+1))))
end
def r01_Get.f (k:Nat) (a0:ByteArray) (a1:Int):Option (Int × Int × Int):=if a1 < 0 then (r01_Get.j0 k a0 a1 true) else (r01_Get.j0 k a0 a1 (decide (a1 > (a0.size:Int))))
def r02_Cursor_Fail.f (s0_0:ByteArray) (s0_1:Int) (s0_2:Int) (a1:Int):Option (ByteArray × Int × Int):=if s0_2 = 0 then (some (s0_0,s0_1,a1)) else (some (s0_0,s0_1,s0_2))
def r01_Zag.f (a0:Int):Option (Int):=if (Int.tmod a0 2) = 0 then (some (wrap64 (IntKind.u64.wrap (Int.tdiv a0 2)))) else (some (wrap64 ((wrap64 (-(wrap64 (IntKind.u64.wrap (Int.tdiv a0 2))))) - 1)))
def r02_Cursor_Int.f (k:Nat) (s0_0:ByteArray) (s0_1:Int) (s0_2:Int):Option (Int × ByteArray × Int × Int):=if s0_2 = 0 then ((r01_Get.f k s0_0 s0_1).bind fun bt369 => (if bt369.2.2 = 0 then ((r01_Zag.f bt369.1).bind fun t372 => (some (t372,s0_0,bt369.2.1,s0_2))) else (some (0,s0_0,s0_1,bt369.2.2)))) else (some (0,s0_0,s0_1,s0_2))
end Go.Proofs.YtoigkneoaemcfaaDoor.GN
