import Derived.Test.YtoigkneoaemcfaaDoorNoM3
import Derived.Test.YtoigkneoaemcfaaDoorNoGNx1
import Derived.Test.YtoigkneoaemcfaaDoorNoM5
import Derived.Test.YtoigkneoaemcfaaDoorNoGNx2
namespace Go.Proofs.YtoigkneoaemcfaaDoor.Cur
open Go.RowKit Go.Proofs.YtoigkneoaemcfaaDoorW.PrintWords Go.Proofs.YtoigkneoaemcfaaDoorW.PrintLast Go.Proofs.YtoigkneoaemcfaaDoorW.PrintMore Go.Proofs.YtoigkneoaemcfaaDoor.VM Go.Proofs.YtoigkneoaemcfaaDoor.B
section
open Go.Proofs.YtoigkneoaemcfaaDoor.GN
def gotFrom (a i:Nat) (at':Int):Dec→Int × Int × Int
  | .ok v n => (((a+2 ^ (7 * i) * v:Nat):Int),at'+i+n,0)
  | .cut => (0,0,2)
  | .long => (0,0,3)
theorem gotFrom_zero (at':Int) (d:Dec):gotFrom 0 0 at' d = got at' d:=by
  cases d <;> simp [gotFrom,got]
theorem gotFrom_step (a i c:Nat) (at':Int) (d:Dec):gotFrom (a+c % 128 * 2 ^ (7 * i)) (i+1) at' d = gotFrom a i at' (d.step c):=by
  cases d with
  | cut => rfl
  | long => rfl
  | ok v n =>
    simp only [gotFrom,Dec.step,Prod.mk.injEq,and_true]
    refine ⟨?_,by omega⟩
    congr 1
    rw [show 7 * (i+1) = 7 * i+7 by omega,Nat.pow_add,Nat.mul_add,Nat.mul_comm (c % 128)]
    rw [show (2:Nat) ^ (7 * i) * 2 ^ 7 * v = 2 ^ (7 * i) * (128 * v) by rw [Nat.mul_assoc]]
    omega
theorem get_l0 (b:ByteArray) (hb:b.size≤140737488351232) (at':Nat) (d:Nat):∀ (k i a:Nat),at'+i≤b.size→i+d = 10→1≤d→a < 2 ^ (7 * i)→2 * d+2≤k →
    varint_Get.l0 k b (at':Int) (a:Int) (i:Int) = some (gotFrom a i at' (dec i ((bl b).drop (at'+i)))):=by
  induction d with
  | zero => intro k i a _ _ h;omega
  | succ d ih =>
    intro k i a hi hd _ ha hk
    obtain ⟨k,rfl⟩:∃ m,k = m+2:=⟨k - 2,by omega⟩
    have hw:wrap64 ((at':Int)+(i:Int)) = ((at'+i:Nat):Int):=by unfold wrap64;omega
    simp only [varint_Get.l0,hw]
    by_cases he:at'+i = b.size
    · rw [if_pos (by omega),List.drop_eq_nil_of_le (by rw [bl_length];omega),dec_nil];rfl
    have hlt:at'+i < (bl b).length:=by rw [bl_length];omega
    rw [if_neg (by omega),if_pos (by omega),if_pos (by omega)]
    have hc:bt b ((at'+i:Nat):Int) = ((bl b)[at'+i]:Nat):=bt_bl b _ hlt
    have hcb:(bl b)[at'+i] < 256:=bl_byte b _ (List.getElem_mem hlt)
    have hdrop:(bl b).drop (at'+i) = (bl b)[at'+i] :: (bl b).drop (at'+i+1):=List.drop_eq_getElem_cons hlt
    rw [hdrop,dec_cons,hc]
    generalize (bl b)[at'+i] = c at *
    have key:∀ x44:Bool,(x44 = true↔(i = 9∧c > 1 ∨ c = 0∧i > 0))→varint_Get.j2 (k+1) b (at':Int) (a:Int) (i:Int) (c:Int) x44 =
        some (gotFrom a i at' (if i = 9∧c > 1 ∨ c = 0∧i > 0 then .long else if c < 128 then .ok c 1 else (dec (i+1) ((bl b).drop (at'+i+1))).step c)):=by
      intro x44 hx
      simp only [varint_Get.j2]
      by_cases h1:i = 9∧c > 1 ∨ c = 0∧i > 0
      · rw [if_pos (hx.mpr h1),if_pos h1];rfl
      have hw7:wrap64 (7 * (i:Int)) = ((7 * i:Nat):Int):=by unfold wrap64;omega
      have hbound:c % 128 * 2 ^ (7 * i) < 18446744073709551616:=by
        by_cases h9:i = 9
        · have:c % 128≤1:=by omega
          subst h9
          calc c % 128 * 2 ^ (7 * 9)≤1 * 2 ^ (7 * 9):=Nat.mul_le_mul_right _ this
            _ < _:=by decide
        · have h56:(2:Nat) ^ (7 * i)≤2 ^ 56:=Nat.pow_le_pow_right (by omega) (by omega)
          calc c % 128 * 2 ^ (7 * i)≤127 * 2 ^ 56:=Nat.mul_le_mul (by omega) h56
            _ < _:=by decide
      have hor:Go.bits .or .u64 (a:Int) (shl .u64 (IntKind.u64.wrap (Go.bits .and .u8 (c:Int) 127)) (wrap64 (7 * (i:Int)))) = ((a+c % 128 * 2 ^ (7 * i):Nat):Int):=by
        rw [and_127 _ (by omega) (by omega),hw7]
        unfold shl
        rw [show ((c:Int) % 128) = ((c % 128:Nat):Int) by omega,wraps_u64 ((c % 128:Nat):Int) (by omega) (by omega),Int.toNat_natCast]
        rcases or_group i a c ha hbound with h | h
        · exact h
        · omega
      rw [if_neg (fun h => h1 (hx.mp h)),if_pos (by rw [hw7];omega),hor,if_neg h1]
      by_cases h2:c < 128
      · rw [if_pos (by omega),if_pos h2,hw]
        simp only [gotFrom]
        rw [show wrap64 (((at'+i:Nat):Int)+1) = (at':Int)+i+(1:Nat) by unfold wrap64;omega]
        rw [Nat.mod_eq_of_lt h2,Nat.mul_comm]
      · rw [if_neg (by omega),if_neg h2]
        rw [show wrap64 ((i:Int)+1) = ((i+1:Nat):Int) by unfold wrap64;omega]
        have hi8:i≤8:=by omega
        have ha':a+c % 128 * 2 ^ (7 * i) < 2 ^ (7 * (i+1)):=by
          rw [show 7 * (i+1) = 7 * i+7 by omega,Nat.pow_add]
          have:c % 128 * 2 ^ (7 * i)≤127 * 2 ^ (7 * i):=Nat.mul_le_mul_right _ (by omega)
          omega
        rw [ih k (i+1) _ (by omega) (by omega) (by omega) ha' (by omega),gotFrom_step]
        rfl
    by_cases h9:(i:Int) = 9
    · rw [if_pos h9]
      by_cases h1:(c:Int) > 1
      · rw [if_pos h1,key true (by simp;omega)]
      · rw [if_neg h1]
        by_cases h0:(c:Int) = 0
        · rw [if_pos h0,key _ (by simp;omega)]
        · rw [if_neg h0,key false (by simp;omega)]
    · rw [if_neg h9]
      by_cases h0:(c:Int) = 0
      · rw [if_pos h0,key _ (by simp;omega)]
      · rw [if_neg h0,key false (by simp;omega)]
theorem get_f (b:ByteArray) (hb:b.size≤140737488351232) (at':Int) (k:Nat) (hk:23≤k) :
    varint_Get.f k b at' = some (if at' < 0 ∨ at' > b.size then (0,0,1) else got at' (dec 0 ((bl b).drop at'.toNat))):=by
  obtain ⟨k,rfl⟩:∃ m,k = m+1:=⟨k - 1,by omega⟩
  unfold varint_Get.f
  by_cases h0:at' < 0
  · rw [if_pos h0,if_pos (.inl h0)];simp [varint_Get.j0]
  · rw [if_neg h0]
    simp only [varint_Get.j0]
    by_cases h1:at' > b.size
    · rw [if_pos (by simpa using h1),if_pos (.inr h1)]
    · rw [if_neg (by simpa using h1),if_neg (by omega)]
      obtain ⟨n,rfl⟩:=Int.eq_ofNat_of_zero_le (show 0≤at' by omega)
      have:=get_l0 b hb n 10 k 0 0 (by omega) (by omega) (by omega) (by simp) (by omega)
      simp only [Nat.add_zero,gotFrom_zero,Int.toNat_natCast] at this ⊢
      exact this
theorem tmod_128 (c:Nat):IntKind.u64.wrap (Int.tmod (c:Int) 128) = ((c % 128:Nat):Int):=by
  rw [Int.tmod_eq_emod_of_nonneg (by omega),u64_wrap];omega
theorem ref_l0 (b:ByteArray) (hb:b.size≤140737488351232) (at':Nat) (d:Nat):∀ (k i a u:Nat),at'+i≤b.size→i+d = 10→1≤d→a < 2 ^ (7 * i)→u = 2 ^ (7 * i)→3 * d+3≤k →
    r01_Get.l0 k b (at':Int) (a:Int) (u:Int) ((at'+i:Nat):Int) = some (gotFrom a i at' (dec i ((bl b).drop (at'+i)))):=by
  induction d with
  | zero => intro k i a u _ _ h;omega
  | succ d ih =>
    intro k i a u hi hd _ ha hu hk
    obtain ⟨k,rfl⟩:∃ m,k = m+3:=⟨k - 3,by omega⟩
    have hw:wrap64 (((at'+i:Nat):Int) - (at':Int)) = (i:Int):=by unfold wrap64;omega
    simp only [r01_Get.l0,hw]
    by_cases he:at'+i = b.size
    · rw [if_neg (by omega),List.drop_eq_nil_of_le (by rw [bl_length];omega),dec_nil];rfl
    have hlt:at'+i < (bl b).length:=by rw [bl_length];omega
    rw [if_pos (by omega),if_pos (by omega)]
    have hc:bt b ((at'+i:Nat):Int) = ((bl b)[at'+i]:Nat):=bt_bl b _ hlt
    have hcb:(bl b)[at'+i] < 256:=bl_byte b _ (List.getElem_mem hlt)
    have hdrop:(bl b).drop (at'+i) = (bl b)[at'+i] :: (bl b).drop (at'+i+1):=List.drop_eq_getElem_cons hlt
    rw [hdrop,dec_cons,hc]
    generalize (bl b)[at'+i] = c at *
    have key3:∀ x43:Bool,(x43 = true↔c = 0∧i > 0)→¬ (i = 9∧c > 1)→r01_Get.j3 (k+1) b (at':Int) (a:Int) (u:Int) ((at'+i:Nat):Int) (c:Int) x43 =
        some (gotFrom a i at' (if i = 9∧c > 1 ∨ c = 0∧i > 0 then .long else if c < 128 then .ok c 1 else (dec (i+1) ((bl b).drop (at'+i+1))).step c)):=by
      intro x43 hx h9
      simp only [r01_Get.j3]
      by_cases h1:c = 0∧i > 0
      · rw [if_pos (hx.mpr h1),if_pos (.inr h1)];rfl
      have hbound:c % 128 * 2 ^ (7 * i) < 18446744073709551616:=by
        by_cases h9':i = 9
        · have:c % 128≤1:=by omega
          subst h9'
          calc c % 128 * 2 ^ (7 * 9)≤1 * 2 ^ (7 * 9):=Nat.mul_le_mul_right _ this
            _ < _:=by decide
        · have h56:(2:Nat) ^ (7 * i)≤2 ^ 56:=Nat.pow_le_pow_right (by omega) (by omega)
          calc c % 128 * 2 ^ (7 * i)≤127 * 2 ^ 56:=Nat.mul_le_mul (by omega) h56
            _ < _:=by decide
      have hsum:a+c % 128 * 2 ^ (7 * i) < 18446744073709551616:=by
        by_cases h9':i = 9
        · have:c % 128≤1:=by omega
          subst h9'
          have:c % 128 * 2 ^ (7 * 9)≤1 * 2 ^ (7 * 9):=Nat.mul_le_mul_right _ this
          have e:(2:Nat) ^ (7 * 9) = 9223372036854775808:=by decide
          rw [e] at ha this ⊢
          omega
        · have h56:(2:Nat) ^ (7 * i)≤2 ^ 56:=Nat.pow_le_pow_right (by omega) (by omega)
          have h2:c % 128 * 2 ^ (7 * i)≤127 * 2 ^ 56:=Nat.mul_le_mul (by omega) h56
          have e:(2:Nat) ^ 56 = 72057594037927936:=by decide
          rw [e] at h56 h2
          omega
      have hadd:IntKind.u64.wrap ((a:Int)+IntKind.u64.wrap ((u:Int) * IntKind.u64.wrap (Int.tmod (c:Int) 128))) = ((a+c % 128 * 2 ^ (7 * i):Nat):Int):=by
        rw [tmod_128,hu]
        rw [show (((2 ^ (7 * i):Nat):Int) * ((c % 128:Nat):Int)) = ((c % 128 * 2 ^ (7 * i):Nat):Int) by rw [← Int.natCast_mul,Nat.mul_comm]]
        rw [wraps_u64 ((c % 128 * 2 ^ (7 * i):Nat):Int) (by omega) (by omega),← Int.natCast_add,wraps_u64 ((a+c % 128 * 2 ^ (7 * i):Nat):Int) (by omega) (by omega)]
      rw [if_neg (fun h => h1 (hx.mp h)),hadd,if_neg (show ¬ (i = 9∧c > 1 ∨ c = 0∧i > 0) by omega)]
      by_cases h2:c < 128
      · rw [if_pos (by omega),if_pos h2]
        simp only [gotFrom]
        rw [show wrap64 (((at'+i:Nat):Int)+1) = (at':Int)+i+(1:Nat) by unfold wrap64;omega]
        rw [Nat.mod_eq_of_lt h2,Nat.mul_comm]
      · rw [if_neg (by omega),if_neg h2]
        have hi8:i≤8:=by omega
        rw [show wrap64 (((at'+i:Nat):Int)+1) = ((at'+(i+1):Nat):Int) by unfold wrap64;omega]
        have hu2:IntKind.u64.wrap ((u:Int) * 128) = ((2 ^ (7 * (i+1)):Nat):Int):=by
          have h63:(2:Nat) ^ (7 * (i+1))≤2 ^ 63:=Nat.pow_le_pow_right (by omega) (by omega)
          rw [hu,show (((2 ^ (7 * i):Nat):Int) * 128) = ((2 ^ (7 * (i+1)):Nat):Int) by rw [show 7 * (i+1) = 7 * i+7 by omega,Nat.pow_add];omega]
          have e:(2:Nat) ^ 63 = 9223372036854775808:=by decide
          rw [e] at h63
          exact wraps_u64 _ (Int.natCast_nonneg _) (by omega)
        have ha':a+c % 128 * 2 ^ (7 * i) < 2 ^ (7 * (i+1)):=by
          rw [show 7 * (i+1) = 7 * i+7 by omega,Nat.pow_add]
          have:c % 128 * 2 ^ (7 * i)≤127 * 2 ^ (7 * i):=Nat.mul_le_mul_right _ (by omega)
          omega
        rw [hu2,ih k (i+1) _ _ (by omega) (by omega) (by omega) ha' rfl (by omega),gotFrom_step]
        rfl
    have key2:∀ x36:Bool,(x36 = true↔i = 9∧c > 1)→r01_Get.j2 (k+2) b (at':Int) (a:Int) (u:Int) ((at'+i:Nat):Int) (c:Int) x36 =
        some (gotFrom a i at' (if i = 9∧c > 1 ∨ c = 0∧i > 0 then .long else if c < 128 then .ok c 1 else (dec (i+1) ((bl b).drop (at'+i+1))).step c)):=by
      intro x36 hx
      simp only [r01_Get.j2]
      by_cases h1:i = 9∧c > 1
      · rw [if_pos (hx.mpr h1),if_pos (.inl h1)];rfl
      rw [if_neg (fun h => h1 (hx.mp h))]
      by_cases h0:(c:Int) = 0
      · rw [if_pos h0,key3 _ (by simp;omega) h1]
      · rw [if_neg h0,key3 false (by simp;omega) h1]
    by_cases h9:(i:Int) = 9
    · rw [if_pos h9,key2 _ (by simp;omega)]
    · rw [if_neg h9,key2 false (by simp;omega)]
theorem ref_f (b:ByteArray) (hb:b.size≤140737488351232) (at':Int) (k:Nat) (hk:40≤k) :
    r01_Get.f k b at' = some (if at' < 0 ∨ at' > b.size then (0,0,1) else got at' (dec 0 ((bl b).drop at'.toNat))):=by
  obtain ⟨k,rfl⟩:∃ m,k = m+1:=⟨k - 1,by omega⟩
  unfold r01_Get.f
  by_cases h0:at' < 0
  · rw [if_pos h0,if_pos (.inl h0)];simp [r01_Get.j0]
  · rw [if_neg h0]
    simp only [r01_Get.j0]
    by_cases h1:at' > b.size
    · rw [if_pos (by simpa using h1),if_pos (.inr h1)]
    · rw [if_neg (by simpa using h1),if_neg (by omega)]
      obtain ⟨n,rfl⟩:=Int.eq_ofNat_of_zero_le (show 0≤at' by omega)
      have:=ref_l0 b hb n 10 k 0 0 1 (by omega) (by omega) (by omega) (by simp) (by simp) (by omega)
      simp only [Nat.add_zero,gotFrom_zero,Int.toNat_natCast] at this ⊢
      exact this
theorem get_calls (b:ByteArray) (hb:b.size≤140737488351232) (at':Nat) (h:at'≤b.size) (w:World) :
    Calls Tryd.prog 101 #[.string b,.int .i64 at'] w fun e w' => e = .returned (.tuple #[.int .u64 (gt b at').1,.int .i64 (gt b at').2.1,.int .i64 (gt b at').2.2])∧Drawn0 w w':=by
  refine varint_Get.calls 100 b at' _ _ _ w ?_
  rw [get_f b hb at' 100 (by omega),if_neg (by omega),Int.toNat_natCast];rfl
end
section
open Go.Proofs.YtoigkneoaemcfaaDoor.GN
theorem i64_wrap (n:Int):IntKind.i64.wrap n = (n+9223372036854775808) % 18446744073709551616 - 9223372036854775808:=IntKind.wrap_i64 n
theorem and_1 (n:Int) (h0:0≤n) (h1:n < 18446744073709551616):Go.bits .and .u64 n 1 = n % 2 :=
  bits_mask .u64 64 (by decide) wraps_u64 1 (by decide) n h0 (by simpa using h1)
theorem zag_f (n:Int) (h0:0≤n) (h1:n < 18446744073709551616):varint_Zag.f n = some (zag n):=by
  unfold varint_Zag.f zag
  congr 1
  rw [and_1 n h0 h1,show wrap64 (n / 2) = n / 2 by unfold wrap64;omega,show wrap64 (n % 2) = n % 2 by unfold wrap64;omega]
  by_cases h:n % 2 = 0
  · rw [if_pos h,h,show wrap64 (-0) = 0 by unfold wrap64;omega,xor_zero]
    simp only [i64_wrap,show IntKind.i64.bits = 64 from rfl]
    omega
  · rw [if_neg h,show n % 2 = 1 by omega,show wrap64 (-1) = -1 by unfold wrap64;omega,xor_ones _ _ _ (by decide +kernel)]
    simp only [i64_wrap,show IntKind.i64.bits = 64 from rfl]
    omega
theorem zag_calls (n:Int) (h0:0≤n) (h1:n < 18446744073709551616) (w:World) :
    Calls Tryd.prog 102 #[.int .u64 n] w fun e w' => e = .returned (.int .i64 (zag n))∧Drawn0 w w' :=
  varint_Zag.calls n _ w (zag_f n h0 h1)
end
end Go.Proofs.YtoigkneoaemcfaaDoor.Cur
