/- Texts of the claim, one behind the other. -/
import Derived.Test.YtoigkneoaemcfaaDoorNoWAll
import Derived.Test.YtoigkneoaemcfaaDoorNoM0
namespace Go.Proofs.YtoigkneoaemcfaaDoor.VM
open Go.RowKit Go.Proofs.YtoigkneoaemcfaaDoorW.PrintWords Go.Proofs.YtoigkneoaemcfaaDoorW.PrintLast Go.Proofs.YtoigkneoaemcfaaDoorW.PrintMore
def enc (n:Nat):List Nat:=if n < 128 then [n] else (128+n % 128) :: enc (n / 128)
termination_by n
decreasing_by omega
theorem enc_small {n:Nat} (h:n < 128):enc n = [n]:=by rw [enc,if_pos h]
theorem enc_big {n:Nat} (h:¬ n < 128):enc n = (128+n % 128) :: enc (n / 128):=by rw [enc,if_neg h]
theorem enc_ne (n:Nat):enc n≠[]:=by
  rw [enc];split <;> simp
theorem enc_byte (n:Nat):∀ x ∈ enc n,x < 256:=by
  induction n using enc.induct with
  | case1 n h => rw [enc_small h];simp;omega
  | case2 n h ih => rw [enc_big h];intro x hx;rcases List.mem_cons.mp hx with rfl | hx;omega;exact ih x hx
theorem enc_length_le (m:Nat):∀ n,n < 128 ^ (m+1)→(enc n).length≤m+1:=by
  induction m with
  | zero => intro n h;rw [enc_small (by omega)];simp
  | succ m ih =>
    intro n h
    by_cases hn:n < 128
    · rw [enc_small hn];simp
    · rw [enc_big hn]
      have:=ih (n / 128) (by rw [Nat.div_lt_iff_lt_mul (by omega)];rw [Nat.pow_succ] at h;exact h)
      simp;omega
theorem enc_length_u64 {n:Nat} (h:n < 18446744073709551616):(enc n).length≤10:=enc_length_le 9 n (by omega)
inductive Dec where
  | ok (v n:Nat)
  | cut
  | long
def Dec.step (c:Nat):Dec→Dec
  | .ok v n => .ok (c % 128+128 * v) (n+1)
  | .cut => .cut
  | .long => .long
def dec:Nat→List Nat→Dec
  | _,[] => .cut
  | i,c :: l => if i = 9∧c > 1 ∨ c = 0∧i > 0 then .long else if c < 128 then .ok c 1 else (dec (i+1) l).step c
theorem dec_nil (i:Nat):dec i [] = .cut:=rfl
theorem dec_cons (i c:Nat) (l:List Nat):dec i (c :: l) = if i = 9∧c > 1 ∨ c = 0∧i > 0 then .long else if c < 128 then .ok c 1 else (dec (i+1) l).step c:=rfl
theorem dec_enc (n:Nat):∀ (i:Nat) (l:List Nat),n < 2 ^ (64 - 7 * i)→i≤9→(i > 0→0 < n)→dec i (enc n ++ l) = .ok n (enc n).length:=by
  induction n using enc.induct with
  | case1 n h =>
    intro i l hn hi h0
    rw [enc_small h]
    simp only [List.cons_append,List.nil_append,dec_cons]
    rw [if_neg,if_pos h];rfl
    intro hc
    rcases hc with ⟨rfl,hc⟩ | ⟨rfl,hc⟩
    · simp at hn;omega
    · have:=h0 hc;omega
  | case2 n h ih =>
    intro i l hn hi h0
    rw [enc_big h]
    simp only [List.cons_append,dec_cons]
    have hi9:i≤8:=by
      by_cases h9:i = 9
      · subst h9;simp at hn;omega
      · omega
    rw [if_neg (by omega),if_neg (by omega),ih (i+1) l]
    · simp only [Dec.step,List.length_cons];congr 1;omega
    · have e:(2:Nat) ^ (64 - 7 * i) = 128 * 2 ^ (64 - 7 * (i+1)):=by
        rw [show 64 - 7 * i = 7+(64 - 7 * (i+1)) by omega,Nat.pow_add]
      rw [e] at hn
      exact Nat.div_lt_of_lt_mul hn
    · omega
    · intro _;omega
theorem dec_ok (l:List Nat):∀ (i v n:Nat),(∀ x ∈ l,x < 256)→dec i l = .ok v n→i≤9→n≤l.length∧n≤10 - i∧1≤n∧v < 2 ^ (64 - 7 * i)∧enc v = l.take n∧(i > 0→0 < v):=by
  induction l with
  | nil => intro i v n _ h;simp [dec_nil] at h
  | cons c l ih =>
    intro i v n hl h hi
    rw [dec_cons] at h
    have hc:=hl c (by simp)
    by_cases h1:i = 9∧c > 1 ∨ c = 0∧i > 0
    · rw [if_pos h1] at h;cases h
    rw [if_neg h1] at h
    by_cases h2:c < 128
    · rw [if_pos h2] at h
      cases h
      refine ⟨by simp,by omega,Nat.le_refl _,?_,?_,by omega⟩
      · by_cases h9:i = 9
        · subst h9;simp;omega
        · have:(2:Nat) ^ 7≤2 ^ (64 - 7 * i):=Nat.pow_le_pow_right (by omega) (by omega)
          omega
      · rw [enc_small h2];rfl
    · rw [if_neg h2] at h
      have hi8:i≤8:=by omega
      cases hd:dec (i+1) l with
      | cut => rw [hd] at h;cases h
      | long => rw [hd] at h;cases h
      | ok v' n' =>
        rw [hd] at h
        simp only [Dec.step,Dec.ok.injEq] at h
        obtain ⟨rfl,rfl⟩:=h
        obtain ⟨a1,a2,a3,a4,a5,a6⟩:=ih (i+1) v' n' (fun x hx => hl x (by simp [hx])) hd (by omega)
        have hv:=a6 (by omega)
        refine ⟨by simp;omega,by omega,by omega,?_,?_,fun _ => by omega⟩
        · have e:(2:Nat) ^ (64 - 7 * i) = 128 * 2 ^ (64 - 7 * (i+1)):=by
            rw [show 64 - 7 * i = 7+(64 - 7 * (i+1)) by omega,Nat.pow_add]
          rw [e];omega
        · rw [enc_big (by omega),show (c % 128+128 * v') / 128 = v' by omega,a5]
          simp only [List.take_succ_cons]
          congr 1;omega
theorem u64_wrap (n:Int):IntKind.u64.wrap n = n % 18446744073709551616:=by simp [IntKind.wrap,IntKind.bits,IntKind.signed]
theorem wraps_u64 (n:Int) (h₀:0≤n) (h₁:n < 2 ^ 64):IntKind.u64.wrap n = n:=by rw [u64_wrap];omega
theorem or_128 (x:Int):Go.bits .or .u8 (x % 256) 128 = 128+x % 128:=by
  have key:∀ a:Fin 256,Go.bits .or .u8 (a.val:Int) 128 = 128+(a.val:Int) % 128:=by decide +kernel
  have:=key ⟨(x % 256).toNat,by omega⟩
  simp only at this
  rw [show (((x % 256).toNat:Nat):Int) = x % 256 by omega] at this
  rw [this];omega
theorem and_127 (c:Int) (h0:0≤c) (h1:c < 256):Go.bits .and .u8 c 127 = c % 128:=by
  have key:∀ a:Fin 256,Go.bits .and .u8 (a.val:Int) 127 = (a.val:Int) % 128:=by decide +kernel
  have:=key ⟨c.toNat,by omega⟩
  simp only at this
  rw [show ((c.toNat:Nat):Int) = c by omega] at this
  exact this
theorem or_group (i a c:Nat) (ha:a < 2 ^ (7 * i)) (h:c % 128 * 2 ^ (7 * i) < 18446744073709551616) :
    Go.bits .or .u64 (a:Int) (IntKind.u64.wrap ((c % 128:Nat) * 2 ^ (min (7 * i) 64))) = ((a+c % 128 * 2 ^ (7 * i):Nat):Int) ∨ 9 < i:=by
  by_cases hi:9 < i
  · exact .inr hi
  left
  rw [Nat.min_eq_left (by omega)]
  have hp:(2:Nat) ^ (7 * i)≤2 ^ 63:=Nat.pow_le_pow_right (by omega) (by omega)
  have e:(((c % 128:Nat):Int) * 2 ^ (7 * i)) = ((c % 128 * 2 ^ (7 * i):Nat):Int):=by push_cast;rfl
  rw [e,wraps_u64 _ (by omega) (by omega),(bits_nat .u64 64 (by decide) wraps_u64 a _ (by omega) (by omega)).2]
  rw [Nat.or_comm,Nat.mul_comm (c % 128),← Nat.two_pow_add_eq_or_of_lt ha,Nat.add_comm]
theorem xor_zero (k:IntKind) (x:Int):Go.bits .xor k x 0 = k.wrap ((x % 2 ^ k.bits).toNat:Nat):=by
  show k.wrap ((BitVec.ofInt k.bits x ^^^ BitVec.ofInt k.bits 0).toNat:Nat) = _
  rw [show BitVec.ofInt k.bits 0 = 0#k.bits from rfl,BitVec.xor_zero,BitVec.toNat_ofInt];norm_cast
theorem xor_ones (k:IntKind) (x y:Int) (h:BitVec.ofInt k.bits y = BitVec.allOnes k.bits):Go.bits .xor k x y = k.wrap ((2 ^ k.bits - 1 - (x % 2 ^ k.bits).toNat:Nat):Int):=by
  show k.wrap ((BitVec.ofInt k.bits x ^^^ BitVec.ofInt k.bits y).toNat:Nat) = _
  rw [h,BitVec.xor_allOnes,BitVec.toNat_not,BitVec.toNat_ofInt];norm_cast
end Go.Proofs.YtoigkneoaemcfaaDoor.VM
namespace Go.Proofs.YtoigkneoaemcfaaDoor.Cur
open Go.RowKit Go.Proofs.YtoigkneoaemcfaaDoorW.PrintWords Go.Proofs.YtoigkneoaemcfaaDoorW.PrintLast Go.Proofs.YtoigkneoaemcfaaDoorW.PrintMore Go.Proofs.YtoigkneoaemcfaaDoor.VM Go.Proofs.YtoigkneoaemcfaaDoor.B
def bl (b:ByteArray):List Nat:=b.data.toList.map UInt8.toNat
theorem bl_length (b:ByteArray):(bl b).length = b.size:=by unfold bl;rw [List.length_map,data_length]
theorem bl_byte (b:ByteArray):∀ x ∈ bl b,x < 256:=by
  unfold bl;intro x hx
  obtain ⟨y,_,rfl⟩:=List.mem_map.mp hx
  exact y.toNat_lt
theorem bt_bl (b:ByteArray) (i:Nat) (h:i < (bl b).length):bt b (i:Int) = ((bl b)[i]:Nat):=by
  have e:(bl b)[i] = (b.data.toList[i]'(by rw [data_length,← bl_length];exact h)).toNat:=by simp [bl]
  rw [e]
  rw [bl_length] at h
  unfold bt
  simp only [Int.toNat_natCast,h,dif_pos]
  rfl
theorem bl_strOfNums (l:List Nat) (h:∀ x ∈ l,x < 256):bl (strOfNums (l.map Int.ofNat)) = l:=by
  unfold bl
  rw [strOfNums_data,List.map_map,List.map_map]
  conv => rhs;rw [← List.map_id l]
  apply List.map_congr_left
  intro x hx
  have:=h x hx
  simp
  omega
theorem bl_inj {a b:ByteArray} (h:bl a = bl b):a = b:=by
  unfold bl at h
  have:a.data.toList = b.data.toList:=by
    have hinj:∀ (s t:List UInt8),s.map UInt8.toNat = t.map UInt8.toNat→s = t:=by
      intro s
      induction s with
      | nil => intro t h;cases t with | nil => rfl | cons => simp at h
      | cons x s ih =>
        intro t h
        cases t with
        | nil => simp at h
        | cons y t =>
          simp only [List.map_cons,List.cons.injEq] at h
          rw [UInt8.toNat_inj.mp h.1,ih t h.2]
    exact hinj _ _ h
  cases a;cases b;simp only at this;congr;exact Array.toList_inj.mp this
theorem append_bl (a b:ByteArray):bl (a ++ b) = bl a ++ bl b:=by
  unfold bl
  rw [ByteArray.data_append,Array.toList_append,List.map_append]
theorem extract_bl (b:ByteArray) (m n:Nat):bl (b.extract m n) = ((bl b).take n).drop m:=by
  unfold bl
  rw [ByteArray.data_extract,Array.toList_extract,List.extract_eq_take_drop,← List.drop_take,List.map_drop,List.map_take]
def got (at':Int):Dec→Int × Int × Int
  | .ok v n => (v,at'+n,0)
  | .cut => (0,0,2)
  | .long => (0,0,3)
def gt (b:ByteArray) (at':Nat):Int × Int × Int:=got at' (dec 0 ((bl b).drop at'))
theorem gt_cases (b:ByteArray) (at':Nat):(∃ v n:Nat,gt b at' = ((v:Int),(at':Int)+n,0)∧v < 18446744073709551616∧at'+n≤b.size∧1≤n∧n≤10∧enc v = ((bl b).drop at').take n) ∨ gt b at' = (0,0,2) ∨ gt b at' = (0,0,3):=by
  unfold gt
  cases hd:dec 0 ((bl b).drop at') with
  | cut => exact .inr (.inl rfl)
  | long => exact .inr (.inr rfl)
  | ok v n =>
    obtain ⟨a1,a2,a3,a4,a5,_⟩:=dec_ok _ 0 v n (fun x hx => bl_byte b x (List.mem_of_mem_drop hx)) hd (by omega)
    rw [List.length_drop,bl_length] at a1
    exact .inl ⟨v,n,rfl,by simpa using a4,by omega,a3,by omega,a5⟩
def zg (n:Int):Int:=if 0≤n then 2 * n else -2 * n - 1
def zag (n:Int):Int:=if n % 2 = 0 then n / 2 else -(n / 2) - 1
theorem zag_zg (n:Int):zag (zg n) = n:=by unfold zag zg;split <;> split <;> omega
theorem zg_nonneg (n:Int):0≤zg n:=by unfold zg;split <;> omega
structure Cur where
  b:ByteArray
  at':Nat
  e:Int
def Cur.ok (c:Cur):Prop:=c.at'≤c.b.size∧c.b.size≤140737488351232
def new (b:ByteArray):Cur:=⟨b,0,0⟩
theorem new_ok {b:ByteArray} (h:b.size≤140737488351232):(new b).ok:=⟨Nat.zero_le _,h⟩
def Cur.left (c:Cur):Int:=(c.b.size:Int) - c.at'
def Cur.fail (c:Cur) (e:Int):Cur:=if c.e = 0 then { c with e:=e } else c
def Cur.bytes (c:Cur) (n:Int):ByteArray × Cur :=
  if c.e≠0 then (⟨#[]⟩,c) else if n < 0 then (⟨#[]⟩,{ c with e:=1 }) else if c.left < n then (⟨#[]⟩,{ c with e:=2 }) else (c.b.extract c.at' (c.at'+n.toNat),{ c with at':=c.at'+n.toNat })
def Cur.byte (c:Cur):Int × Cur:=(if (c.bytes 1).1.size = 0 then 0 else bt (c.bytes 1).1 0,(c.bytes 1).2)
def Cur.uint (c:Cur) (most:Int):Int × Cur :=
  if c.e≠0 then (0,c) else if (gt c.b c.at').2.2≠0 then (0,{ c with e:=(gt c.b c.at').2.2 }) else if (gt c.b c.at').1 > most ∨ (gt c.b c.at').1 > 16777216 then (0,{ c with e:=19 }) else ((gt c.b c.at').1,{ c with at':=(gt c.b c.at').2.1.toNat })
def Cur.number (c:Cur):Int × Int × Cur:=if c.e≠0 then (0,(c.at':Int),c) else ((gt c.b c.at').1,(gt c.b c.at').2.1,c.fail (gt c.b c.at').2.2)
def Cur.int (c:Cur):Int × Cur :=
  if c.e≠0 then (0,c) else if (gt c.b c.at').2.2≠0 then (0,{ c with e:=(gt c.b c.at').2.2 }) else (zag (gt c.b c.at').1,{ c with at':=(gt c.b c.at').2.1.toNat })
def Cur.textOf (c:Cur) (s:ByteArray × Cur):ByteArray × Cur:=if s.2.e≠0 then (⟨#[]⟩,{ c with e:=s.2.e }) else s
def Cur.text (c:Cur) (most:Int):ByteArray × Cur :=
  if c.e≠0 then (⟨#[]⟩,c) else c.textOf ((c.uint (if most < 0 then 0 else most)).2.bytes (c.uint (if most < 0 then 0 else most)).1)
section
variable {c:Cur}
theorem fail_b (e:Int):(c.fail e).b = c.b:=by unfold Cur.fail;split <;> rfl
theorem fail_at (e:Int):(c.fail e).at' = c.at':=by unfold Cur.fail;split <;> rfl
theorem fail_ok (h:c.ok) (e:Int):(c.fail e).ok:=by unfold Cur.ok;rw [fail_b,fail_at];exact h
theorem bytes_b (n:Int):(c.bytes n).2.b = c.b:=by
  unfold Cur.bytes
  repeat' split
  all_goals rfl
theorem bytes_ok (h:c.ok) (n:Int):(c.bytes n).2.ok:=by
  obtain ⟨h1,h2⟩:=h
  unfold Cur.bytes Cur.left
  repeat' split
  all_goals (unfold Cur.ok;simp only;omega)
theorem uint_b (n:Int):(c.uint n).2.b = c.b:=by
  unfold Cur.uint
  repeat' split
  all_goals rfl
theorem uint_ok (h:c.ok) (n:Int):(c.uint n).2.ok:=by
  obtain ⟨h1,h2⟩:=h
  have hg:=gt_cases c.b c.at'
  unfold Cur.uint
  repeat' split
  all_goals (unfold Cur.ok;simp only)
  all_goals try exact ⟨h1,h2⟩
  generalize gt c.b c.at' = r at *
  rcases hg with ⟨v,n,rfl,h3,h4,_⟩ | rfl | rfl
  all_goals (simp at *)
  all_goals omega
theorem uint_range (n:Int):0≤(c.uint n).1∧(c.uint n).1≤16777216:=by
  have hg:=gt_cases c.b c.at'
  unfold Cur.uint
  repeat' split
  all_goals simp only
  all_goals try omega
  generalize gt c.b c.at' = r at *
  rcases hg with ⟨v,n,rfl,h3,h4,_⟩ | rfl | rfl
  all_goals (simp at *)
  all_goals omega
theorem int_ok (h:c.ok):c.int.2.ok:=by
  obtain ⟨h1,h2⟩:=h
  have hg:=gt_cases c.b c.at'
  unfold Cur.int
  repeat' split
  all_goals (unfold Cur.ok;simp only)
  all_goals try exact ⟨h1,h2⟩
  generalize gt c.b c.at' = r at *
  rcases hg with ⟨v,n,rfl,h3,h4,_⟩ | rfl | rfl
  all_goals (simp at *)
  all_goals omega
theorem textOf_ok (h:c.ok) {s:ByteArray × Cur} (hs:s.2.ok):(c.textOf s).2.ok:=by
  unfold Cur.textOf
  split
  · exact h
  · exact hs
theorem text_ok (h:c.ok) (n:Int):(c.text n).2.ok:=by
  unfold Cur.text
  split
  · exact h
  · exact textOf_ok h (bytes_ok (uint_ok h _) _)
theorem textOf_b {s:ByteArray × Cur} (hs:s.2.b = c.b):(c.textOf s).2.b = c.b:=by
  unfold Cur.textOf
  split
  · rfl
  · exact hs
theorem text_b (n:Int):(c.text n).2.b = c.b:=by
  unfold Cur.text
  split
  · rfl
  · exact textOf_b (by rw [bytes_b,uint_b])
end
end Go.Proofs.YtoigkneoaemcfaaDoor.Cur
