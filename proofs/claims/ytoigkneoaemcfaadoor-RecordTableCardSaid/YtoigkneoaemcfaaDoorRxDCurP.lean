/- What the numbers' writers answer, called: over the printed walks. -/
import Derived.Test.YtoigkneoaemcfaaDoorRxCurM
import Derived.Test.YtoigkneoaemcfaaDoorRxGRx1
import Derived.Test.YtoigkneoaemcfaaDoorRxGRx11
import Derived.Test.YtoigkneoaemcfaaDoorRxGRx2
namespace Go.Proofs.YtoigkneoaemcfaaDoor.Cur
open Go.RowKit Go.Proofs.YtoigkneoaemcfaaDoorW.PrintWords Go.Proofs.YtoigkneoaemcfaaDoorW.PrintLast Go.Proofs.YtoigkneoaemcfaaDoorW.PrintMore Go.Proofs.YtoigkneoaemcfaaDoor.VM Go.Proofs.YtoigkneoaemcfaaDoor.B
section
open Go.Proofs.YtoigkneoaemcfaaDoor.GR
/-- A number's text. -/
def put (n : Nat) : ByteArray := strOfNums ((enc n).map Int.ofNat)
theorem bl_put (n : Nat) : bl (put n) = enc n := bl_strOfNums _ (enc_byte n)
theorem put_size (n : Nat) : (put n).size = (enc n).length := by rw [← bl_length, bl_put]

theorem put_l0 (n : Nat) : ∀ (k : Nat) (x3 : List Int), n < 18446744073709551616 → (enc n).length < k → x3.length + (enc n).length ≤ 1000 →
    varint_Put.l0 k (n : Int) x3 = some (strOfNums (x3 ++ (enc n).map Int.ofNat)) := by
  induction n using enc.induct with
  | case1 n h =>
    intro k x3 hn hk hx
    obtain ⟨k, rfl⟩ : ∃ m, k = m + 1 := ⟨k - 1, by omega⟩
    simp only [varint_Put.l0]
    rw [if_neg (by omega), if_pos (by omega), enc_small h]
    rw [show ((n : Int) % 256) = Int.ofNat n by simp; omega]; rfl
  | case2 n h ih =>
    intro k x3 hn hk hx
    obtain ⟨k, rfl⟩ : ∃ m, k = m + 1 := ⟨k - 1, by omega⟩
    rw [enc_big h] at hk hx ⊢
    simp only [List.length_cons] at hk hx
    simp only [varint_Put.l0]
    rw [if_pos (by omega), if_pos (by omega)]
    rw [show ((n : Int) / 128) = ((n / 128 : Nat) : Int) by omega, ih k _ (by omega) (by omega) (by simp; omega), or_128]
    rw [show (128 + (n : Int) % 128) = Int.ofNat (128 + n % 128) by simp]
    simp [List.append_assoc]
theorem put_f (n k : Nat) (hn : n < 18446744073709551616) (hk : 11 ≤ k) : varint_Put.f k (n : Int) = some (put n) := by
  unfold varint_Put.f put
  have := enc_length_u64 hn
  rw [put_l0 n k [] hn (by omega) (by simp; omega)]; rfl

theorem ref_put (n : Nat) : ∀ (k : Nat), n < 18446744073709551616 → (enc n).length < k → dioramaref01_Put.f k (n : Int) = some (put n) := by
  induction n using enc.induct with
  | case1 n h =>
    intro k hn hk
    obtain ⟨k, rfl⟩ : ∃ m, k = m + 1 := ⟨k - 1, by omega⟩
    simp only [dioramaref01_Put.f]
    rw [if_pos (by omega)]
    unfold put
    rw [enc_small h, show ((n : Int) % 256) = Int.ofNat n by simp; omega]; rfl
  | case2 n h ih =>
    intro k hn hk
    obtain ⟨k, rfl⟩ : ∃ m, k = m + 1 := ⟨k - 1, by omega⟩
    have hl := enc_length_u64 hn
    have hbig := enc_big h
    rw [hbig] at hk hl
    simp only [List.length_cons] at hk hl
    simp only [dioramaref01_Put.f]
    rw [if_neg (by omega)]
    simp only [Option.bind_some]
    rw [Int.tdiv_eq_ediv_of_nonneg (by omega), Int.tmod_eq_emod_of_nonneg (by omega), u64_wrap, u64_wrap]
    rw [show ((n : Int) / 128 % 18446744073709551616) = ((n / 128 : Nat) : Int) by omega, ih k (by omega) (by omega)]
    simp only [Option.bind_some]
    rw [if_pos (by rw [strOfNums_size, put_size]; simp; omega)]
    congr 1
    apply bl_inj
    rw [append_bl, bl_put, bl_put, hbig]
    have := bl_strOfNums [128 + n % 128] (by simp; omega)
    simp only [List.map_cons, List.map_nil] at this
    rw [show ((128 + (n : Int) % 128) % 18446744073709551616 % 256) = Int.ofNat (128 + n % 128) by simp; omega, this]; rfl

theorem refput_calls (n : Nat) (h : n < 18446744073709551616) (w : World) :
    Calls Tryd.prog 53 #[.int .u64 n] w fun e w' => e = .returned (.string (put n)) ∧ Below w.heap.size w w' := by
  have hl := enc_length_u64 h
  exact dioramaref01_Put.calls 100 n _ w (ref_put n 100 h (by omega))
theorem put_calls (n : Nat) (h : n < 18446744073709551616) (w : World) :
    Calls Tryd.prog 40 #[.int .u64 n] w fun e w' => e = .returned (.string (put n)) ∧ Below w.heap.size w w' :=
  varint_Put.calls 100 n _ w (put_f n 100 h (by omega))
end
section
open Go.Proofs.YtoigkneoaemcfaaDoor.GR
theorem zig_f (n : Int) (h0 : -9223372036854775808 ≤ n) (h1 : n ≤ 9223372036854775807) : varint_Zig.f n = some (zg n) := by
  unfold varint_Zig.f zg
  congr 1
  by_cases h : 0 ≤ n
  · rw [if_pos h, show n / 9223372036854775808 = 0 by omega, show IntKind.u64.wrap 0 = 0 by decide, xor_zero]
    simp only [u64_wrap, show IntKind.u64.bits = 64 from rfl]
    omega
  · rw [if_neg h, show n / 9223372036854775808 = -1 by omega, xor_ones _ _ _ (by decide +kernel)]
    simp only [u64_wrap, show IntKind.u64.bits = 64 from rfl]
    omega

theorem ref_zig (n : Int) (h0 : -9223372036854775808 ≤ n) (h1 : n ≤ 9223372036854775807) : dioramaref01_Zig.f n = some (zg n) := by
  unfold dioramaref01_Zig.f zg
  simp only [u64_wrap, wrap64]
  by_cases h : 0 ≤ n
  · rw [if_pos h, if_pos h]; congr 1; omega
  · rw [if_neg h, if_neg h]; congr 1; omega

theorem zig_calls (n : Int) (h0 : -9223372036854775808 ≤ n) (h1 : n ≤ 9223372036854775807) (w : World) :
    Calls Tryd.prog 50 #[.int .i64 n] w fun e w' => e = .returned (.int .u64 (zg n)) ∧ Drawn0 w w' :=
  varint_Zig.calls n _ w (zig_f n h0 h1)
theorem refzig_calls (n : Int) (h0 : -9223372036854775808 ≤ n) (h1 : n ≤ 9223372036854775807) (w : World) :
    Calls Tryd.prog 54 #[.int .i64 n] w fun e w' => e = .returned (.int .u64 (zg n)) ∧ Drawn0 w w' :=
  dioramaref01_Zig.calls n _ w (ref_zig n h0 h1)
end
theorem put_size_le {n : Nat} (h : n < 18446744073709551616) : (put n).size ≤ 10 := by rw [put_size]; exact enc_length_u64 h
/-- A number that stands at a place is got. -/
theorem gt_put (b : ByteArray) (at' v : Nat) (pre post : List Nat) (hv : v < 18446744073709551616) (hb : bl b = pre ++ (enc v ++ post)) (hp : pre.length = at') : gt b at' = ((v : Int), ((at' + (enc v).length : Nat) : Int), 0) := by
  unfold gt
  rw [hb, List.drop_left' hp, dec_enc v 0 post (by simpa using hv) (by omega) (by omega)]
  simp only [got, Prod.mk.injEq, and_true, true_and]
  omega
end Go.Proofs.YtoigkneoaemcfaaDoor.Cur
