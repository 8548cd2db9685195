import Derived.Test.YtoigkneoaemcfaaDoorNoM0
import Derived.Test.YtoigkneoaemcfaaDoorNoM6
import Derived.Lib.RuneCountTail
import Derived.Lib.DecodeN
import Derived.Lib.RuneBytes
import Derived.Lib.Small
namespace Go.Proofs.YtoigkneoaemcfaaDoor.U
open Go.RowKit Go.Lib Go.Proofs.YtoigkneoaemcfaaDoor.GN Go.Proofs.YtoigkneoaemcfaaDoorW.PrintWords Go.Proofs.YtoigkneoaemcfaaDoorW.PrintLast
set_option linter.unusedVariables false
set_option linter.unusedSimpArgs false
def charZ (v:Int):List Int:=if Lib.validRune v = true then encodeRuneZ v else []
theorem valid_iff (v:Int):Lib.validRune v = true↔(0≤v∧v < 55296) ∨ (57343 < v∧v≤1114111):=by
  unfold Lib.validRune
  rw [decide_eq_true_iff]
theorem charZ_bad {v:Int} (h:¬ ((0≤v∧v < 55296) ∨ (57343 < v∧v≤1114111))):charZ v = []:=by
  unfold charZ
  rw [if_neg (fun e => h ((valid_iff v).1 e))]
theorem charZ_1 {v:Int} (h:0≤v∧v≤127):charZ v = [v]:=by
  unfold charZ
  rw [if_pos ((valid_iff v).2 (by omega)),encodeRuneZ_one h.1 h.2]
theorem charZ_2 {v:Int} (h:128≤v∧v≤2047):charZ v = [192+v / 64,128+v % 64]:=by
  unfold charZ
  rw [if_pos ((valid_iff v).2 (by omega)),encodeRuneZ_two h.1 h.2]
theorem charZ_3 {v:Int} (h:(2048≤v∧v < 55296) ∨ (57343 < v∧v≤65535)):charZ v = [224+v / 4096,128+v / 64 % 64,128+v % 64]:=by
  unfold charZ
  rw [if_pos ((valid_iff v).2 (by omega)),encodeRuneZ_three h]
theorem charZ_4 {v:Int} (h:65536≤v∧v≤1114111):charZ v = [240+v / 262144,128+v / 4096 % 64,128+v / 64 % 64,128+v % 64]:=by
  unfold charZ
  rw [if_pos ((valid_iff v).2 (by omega)),encodeRuneZ_four h.1 h.2]
theorem charZ_ways (v:Int):(¬ ((0≤v∧v < 55296) ∨ (57343 < v∧v≤1114111))∧charZ v = []) ∨ ((0≤v∧v≤127)∧charZ v = [v]) ∨ ((128≤v∧v≤2047)∧charZ v = [192+v / 64,128+v % 64]) ∨
    (((2048≤v∧v < 55296) ∨ (57343 < v∧v≤65535))∧charZ v = [224+v / 4096,128+v / 64 % 64,128+v % 64]) ∨ ((65536≤v∧v≤1114111)∧charZ v = [240+v / 262144,128+v / 4096 % 64,128+v / 64 % 64,128+v % 64]):=by
  by_cases h:(0≤v∧v < 55296) ∨ (57343 < v∧v≤1114111)
  · by_cases h1:v≤127
    · exact .inr (.inl ⟨by omega,charZ_1 (by omega)⟩)
    · by_cases h2:v≤2047
      · exact .inr (.inr (.inl ⟨by omega,charZ_2 (by omega)⟩))
      · by_cases h3:v≤65535
        · exact .inr (.inr (.inr (.inl ⟨by omega,charZ_3 (by omega)⟩)))
        · exact .inr (.inr (.inr (.inr ⟨by omega,charZ_4 (by omega)⟩)))
  · exact .inl ⟨h,charZ_bad h⟩
theorem charZ_one (v x:Int):charZ v = [x]↔(0≤v∧v≤127)∧x = v:=by
  rcases charZ_ways v with ⟨h,e⟩ | ⟨h,e⟩ | ⟨h,e⟩ | ⟨h,e⟩ | ⟨h,e⟩ <;> rw [e] <;> simp <;> omega
theorem charZ_two (v x y:Int):charZ v = [x,y]↔(128≤v∧v≤2047)∧x = 192+v / 64∧y = 128+v % 64:=by
  rcases charZ_ways v with ⟨h,e⟩ | ⟨h,e⟩ | ⟨h,e⟩ | ⟨h,e⟩ | ⟨h,e⟩ <;> rw [e] <;> simp <;> omega
theorem charZ_three (v x y z:Int):charZ v = [x,y,z]↔((2048≤v∧v < 55296) ∨ (57343 < v∧v≤65535))∧x = 224+v / 4096∧y = 128+v / 64 % 64∧z = 128+v % 64:=by
  rcases charZ_ways v with ⟨h,e⟩ | ⟨h,e⟩ | ⟨h,e⟩ | ⟨h,e⟩ | ⟨h,e⟩ <;> rw [e] <;> simp <;> omega
theorem charZ_four (v x y z u:Int):charZ v = [x,y,z,u]↔(65536≤v∧v≤1114111)∧x = 240+v / 262144∧y = 128+v / 4096 % 64∧z = 128+v / 64 % 64∧u = 128+v % 64:=by
  rcases charZ_ways v with ⟨h,e⟩ | ⟨h,e⟩ | ⟨h,e⟩ | ⟨h,e⟩ | ⟨h,e⟩ <;> rw [e] <;> simp <;> omega
def v2 (b0 b1:Nat):Int:=64 * (b0 - 192)+b1 - 128
def v3 (b0 b1 b2:Nat):Int:=64 * (64 * (b0 - 224)+b1 - 128)+b2 - 128
def v4 (b0 b1 b2 b3:Nat):Int:=64 * (64 * (64 * (b0 - 240)+b1 - 128)+b2 - 128)+b3 - 128
def isOne (b0:Nat):Prop:=b0 < 128
def isTwo (n b0 b1:Nat):Prop:=1 < n∧charZ (v2 b0 b1) = [(b0:Int),(b1:Int)]
def isThree (n b0 b1 b2:Nat):Prop:=2 < n∧charZ (v3 b0 b1 b2) = [(b0:Int),(b1:Int),(b2:Int)]
def isFour (n b0 b1 b2 b3:Nat):Prop:=3 < n∧charZ (v4 b0 b1 b2 b3) = [(b0:Int),(b1:Int),(b2:Int),(b3:Int)]
set_option maxRecDepth 100000 in
set_option maxHeartbeats 4000000 in
theorem decode_ways (n b0 b1 b2 b3:Nat) (hn:1≤n) (h0:b0 < 256) (h1:b1 < 256) (h2:b2 < 256) (h3:b3 < 256) :
    (isOne b0∧decodeN n b0 b1 b2 b3 = (b0,1)) ∨ (¬ isOne b0∧isTwo n b0 b1∧((decodeN n b0 b1 b2 b3).1:Int) = v2 b0 b1∧(decodeN n b0 b1 b2 b3).2 = 2) ∨
    (¬ isOne b0∧¬ isTwo n b0 b1∧isThree n b0 b1 b2∧((decodeN n b0 b1 b2 b3).1:Int) = v3 b0 b1 b2∧(decodeN n b0 b1 b2 b3).2 = 3) ∨
    (¬ isOne b0∧¬ isTwo n b0 b1∧¬ isThree n b0 b1 b2∧isFour n b0 b1 b2 b3∧((decodeN n b0 b1 b2 b3).1:Int) = v4 b0 b1 b2 b3∧(decodeN n b0 b1 b2 b3).2 = 4) ∨
    (¬ isOne b0∧¬ isTwo n b0 b1∧¬ isThree n b0 b1 b2∧¬ isFour n b0 b1 b2 b3∧decodeN n b0 b1 b2 b3 = (65533,1)):=by
  unfold isOne isTwo isThree isFour
  rw [charZ_two,charZ_three,charZ_four]
  unfold v2 v3 v4 decodeN
  by_cases c0:b0 < 128
  · rw [if_pos c0];exact .inl ⟨c0,rfl⟩
  · rw [if_neg c0]
    refine .inr ?_
    by_cases c1:b0 / 32 = 6∧1 < n∧b1 / 64 = 2
    · rw [if_pos c1]
      by_cases d1:b0 % 32 * 64+b1 % 64 ≥ 128
      · rw [if_pos d1]
        exact .inl ⟨c0,by omega,by simp only;omega,rfl⟩
      · rw [if_neg d1]
        exact .inr (.inr (.inr ⟨c0,by omega,by omega,by omega,rfl⟩))
    · rw [if_neg c1]
      refine .inr ?_
      by_cases c2:b0 / 16 = 14∧(1 < n∧b1 / 64 = 2)∧(2 < n∧b2 / 64 = 2)
      · rw [if_pos c2]
        by_cases d2:b0 % 16 * 4096+b1 % 64 * 64+b2 % 64 ≥ 2048∧(b0 % 16 * 4096+b1 % 64 * 64+b2 % 64 < 55296 ∨ (57344≤b0 % 16 * 4096+b1 % 64 * 64+b2 % 64∧b0 % 16 * 4096+b1 % 64 * 64+b2 % 64≤1114111))
        · rw [if_pos d2]
          exact .inl ⟨c0,by omega,by omega,by simp only;omega,rfl⟩
        · rw [if_neg d2]
          exact .inr (.inr ⟨c0,by omega,by omega,by omega,rfl⟩)
      · rw [if_neg c2]
        refine .inr ?_
        by_cases c3:b0 / 8 = 30∧(1 < n∧b1 / 64 = 2)∧(2 < n∧b2 / 64 = 2)∧(3 < n∧b3 / 64 = 2)
        · rw [if_pos c3]
          by_cases d3:b0 % 8 * 262144+b1 % 64 * 4096+b2 % 64 * 64+b3 % 64 ≥ 65536∧(b0 % 8 * 262144+b1 % 64 * 4096+b2 % 64 * 64+b3 % 64 < 55296 ∨ (57344≤b0 % 8 * 262144+b1 % 64 * 4096+b2 % 64 * 64+b3 % 64∧b0 % 8 * 262144+b1 % 64 * 4096+b2 % 64 * 64+b3 % 64≤1114111))
          · rw [if_pos d3]
            exact .inl ⟨c0,by omega,by omega,by omega,by simp only;omega,rfl⟩
          · rw [if_neg d3]
            exact .inr ⟨c0,by omega,by omega,by omega,rfl⟩
        · rw [if_neg c3]
          exact .inr ⟨c0,by omega,by omega,by omega,rfl⟩
def Good (x:Nat × Nat):Prop:=¬ (x.1 = 65533∧x.2≤1)
set_option maxRecDepth 100000 in
set_option maxHeartbeats 8000000 in
theorem decodeN_good {n m b0 b1 b2 b3 c1 c2 c3:Nat} (hn:1≤n) (hg:Good (decodeN n b0 b1 b2 b3)) (hm:(decodeN n b0 b1 b2 b3).2≤m)
    (h1:1 < m→b1 = c1) (h2:2 < m→b2 = c2) (h3:3 < m→b3 = c3):decodeN m b0 c1 c2 c3 = decodeN n b0 b1 b2 b3∧(decodeN n b0 b1 b2 b3).2≤n:=by
  revert hg hm
  unfold decodeN Good
  repeat' split
  all_goals intro hg hm
  all_goals first | (exfalso;exact hg ⟨rfl,Nat.le_refl _⟩) | skip
  all_goals (simp only at hm)
  all_goals first | (exfalso;omega) | (refine ⟨?_,by simp only;omega⟩;first | (apply Prod.ext <;> simp only <;> omega) | (exfalso;omega))
theorem width_fits (s:ByteArray) (p:Nat) (hp:p < s.size) (hg:Good (Utf8.decode s p)):p+(Utf8.decode s p).2≤s.size:=by
  rw [decode_at] at hg ⊢
  have:=(decodeN_good (m:=(decodeN (s.size - p) (s.get! p).toNat (s.get! (p+1)).toNat (s.get! (p+2)).toNat (s.get! (p+3)).toNat).2) (by omega) hg (Nat.le_refl _) (fun _ => rfl) (fun _ => rfl) (fun _ => rfl)).2
  omega
theorem go_tail (s:ByteArray) (p:Nat) (h:p < s.size):decodeGo (s.extract p s.size) = Utf8.decode s p:=by
  unfold decodeGo
  rw [tail_decode]
  rw [if_neg (by rw [tail_size];omega)]
  simp
inductive Run (s:ByteArray):Nat→List Int→Nat→Prop
  | nil (p:Nat):Run s p [] p
  | cons {p q:Nat} {l:List Int}:p < s.size→Good (Utf8.decode s p)→Run s (p+(Utf8.decode s p).2) l q→Run s p (((Utf8.decode s p).1:Int) :: l) q
theorem first_good {s:ByteArray} {k p:Nat} (hp:p < s.size) (hg:Good (Utf8.decode s p)):first s (k+1) p = first s k (p+(Utf8.decode s p).2):=by
  rw [first,if_pos hp]
  by_cases h1:(Utf8.decode s p).1 = 65533
  · rw [if_pos h1,go_tail s p hp,if_neg (fun h2 => hg ⟨h1,h2⟩)]
  · rw [if_neg h1]
theorem first_bad {s:ByteArray} {k p:Nat} (hp:p < s.size) (hg:¬ Good (Utf8.decode s p)):first s (k+1) p = p:=by
  have hb:(Utf8.decode s p).1 = 65533∧(Utf8.decode s p).2≤1:=Classical.not_not.1 hg
  rw [first,if_pos hp,if_pos hb.1,go_tail s p hp,if_pos hb.2]
theorem Run.mono {s:ByteArray} {p q:Nat} {l:List Int} (h:Run s p l q):p+l.length≤q:=by
  induction h with
  | nil _ => exact Nat.le_refl _
  | cons hp _ _ ih =>
    have:=width_pos s _ hp
    simp only [List.length_cons]
    omega
theorem Run.le {s:ByteArray} {p q:Nat} {l:List Int} (h:Run s p l q) (hp:p≤s.size):q≤s.size:=by
  induction h with
  | nil _ => exact hp
  | cons h1 hg _ ih => exact ih (width_fits s _ h1 hg)
theorem run_exists (s:ByteArray):∀ (j p:Nat),p≤s.size→s.size < p+j→∃ l q,Run s p l q∧q≤s.size∧(q < s.size→¬ Good (Utf8.decode s q))
  | 0,p,h,h2 => by omega
  | j+1,p,h,h2 => by
    by_cases hp:p < s.size
    · by_cases hg:Good (Utf8.decode s p)
      · have hw:=width_pos s p hp
        obtain ⟨l,q,h3,h4,h5⟩:=run_exists s j (p+(Utf8.decode s p).2) (width_fits s p hp hg) (by omega)
        exact ⟨_,q,.cons hp hg h3,h4,h5⟩
      · exact ⟨[],p,.nil p,h,fun _ => hg⟩
    · exact ⟨[],p,.nil p,h,fun h3 => absurd h3 hp⟩
theorem Run.first {s:ByteArray} {p q:Nat} {l:List Int} (h:Run s p l q) (hq:q≤s.size) (hb:q < s.size→¬ Good (Utf8.decode s q)):∀ j,s.size < p+j→U.first s j p = if q < s.size then (q:Int) else -1:=by
  induction h with
  | nil p =>
    intro j hj
    by_cases hp:p < s.size
    · rw [if_pos hp]
      obtain ⟨j,rfl⟩:∃ m,j = m+1:=⟨j - 1,by omega⟩
      exact first_bad hp (hb hp)
    · rw [if_neg hp,first_end s j p hp]
  | cons hp hg _ ih =>
    intro j hj
    have hw:=width_pos s _ hp
    obtain ⟨j,rfl⟩:∃ m,j = m+1:=⟨j - 1,by omega⟩
    rw [first_good hp hg]
    exact ih hq hb j (by omega)
def bytesZ (s:ByteArray) (p n:Nat):List Int:=(List.range n).map fun i => ((s.get! (p+i)).toNat:Int)
theorem byte_lt (s:ByteArray) (p:Nat):(s.get! p).toNat < 256:=(s.get! p).toNat_lt
instance (x:Nat × Nat):Decidable (Good x):=by unfold Good;infer_instance
instance (b0:Nat):Decidable (isOne b0):=by unfold isOne;infer_instance
instance (n b0 b1:Nat):Decidable (isTwo n b0 b1):=by unfold isTwo;infer_instance
instance (n b0 b1 b2:Nat):Decidable (isThree n b0 b1 b2):=by unfold isThree;infer_instance
instance (n b0 b1 b2 b3:Nat):Decidable (isFour n b0 b1 b2 b3):=by unfold isFour;infer_instance
theorem w64 {n:Int} (h:-9223372036854775808≤n) (h2:n≤9223372036854775807):wrap64 n = n:=by unfold wrap64;omega
theorem w32 {n:Int} (h:-2147483648≤n) (h2:n≤2147483647):wrap32 n = n:=by unfold wrap32;omega
theorem char_f (k:Nat) (c:Int) (h0:-2147483648≤c) (h1:c≤2147483647):r05_Char.f (k+1) c = some (strOfNums (charZ c)):=by
  have hd:∀ d:Int,0≤c→Int.tdiv c d = c / d:=fun d h => Int.tdiv_eq_ediv_of_nonneg h
  have hm:∀ d:Int,0≤c→Int.tmod c d = c % d:=fun d h => Int.tmod_eq_emod_of_nonneg h
  have ht:r05_Char.j0 (k+1) c true = some (strOfNums []):=by rw [r05_Char.j0,if_pos rfl];rfl
  unfold r05_Char.f
  by_cases c0:c < 0
  · rw [if_pos c0,ht,charZ_bad (by omega)]
  rw [if_neg c0]
  by_cases c1:c > 1114111
  · rw [if_pos c1,ht,charZ_bad (by omega)]
  rw [if_neg c1]
  have hf:¬ (55296≤c∧c≤57343)→r05_Char.j0 (k+1) c false = some (strOfNums (charZ c)):=by
    intro hs
    have q1:0≤c / 64:=Int.ediv_nonneg (by omega) (by omega)
    have q2:0≤c / 4096:=Int.ediv_nonneg (by omega) (by omega)
    have q3:0≤c / 262144:=Int.ediv_nonneg (by omega) (by omega)
    rw [r05_Char.j0,if_neg (by simp),w64 (n:=c) (by omega) (by omega)]
    by_cases g1:c < 128
    · rw [if_pos g1,charZ_1 (by omega),show c % 256 = c by omega]
    rw [if_neg g1]
    simp only [hd _ (show 0≤c by omega),hm _ (show 0≤c by omega)]
    rw [w64 (n:=c / 64) (by omega) (by omega),w64 (n:=c / 4096) (by omega) (by omega),w64 (n:=c / 262144) (by omega) (by omega),Int.tmod_eq_emod_of_nonneg q1,Int.tmod_eq_emod_of_nonneg q2]
    by_cases g2:c < 2048
    · rw [if_pos g2,charZ_2 (by omega),w64 (by omega) (by omega),w64 (by omega) (by omega),show (192+c / 64) % 256 = 192+c / 64 by omega,show (128+c % 64) % 256 = 128+c % 64 by omega]
    rw [if_neg g2]
    by_cases g3:c < 65536
    · rw [if_pos g3,charZ_3 (by omega),w64 (by omega) (by omega),w64 (by omega) (by omega),w64 (by omega) (by omega),show (224+c / 4096) % 256 = 224+c / 4096 by omega,show (128+c / 64 % 64) % 256 = 128+c / 64 % 64 by omega,show (128+c % 64) % 256 = 128+c % 64 by omega]
    rw [if_neg g3,charZ_4 (by omega),w64 (by omega) (by omega),w64 (by omega) (by omega),w64 (by omega) (by omega),w64 (by omega) (by omega),show (240+c / 262144) % 256 = 240+c / 262144 by omega,show (128+c / 4096 % 64) % 256 = 128+c / 4096 % 64 by omega,show (128+c / 64 % 64) % 256 = 128+c / 64 % 64 by omega,show (128+c % 64) % 256 = 128+c % 64 by omega]
  by_cases c2:c ≥ 55296
  · rw [if_pos c2]
    by_cases c3:c≤57343
    · rw [decide_eq_true c3,ht,charZ_bad (by omega)]
    · rw [decide_eq_false c3];exact hf (by omega)
  · rw [if_neg c2];exact hf (by omega)
theorem charZ_byte (v:Int):∀ x ∈ charZ v,0≤x∧x < 256:=by
  unfold charZ
  split
  · exact encodeRuneZ_byte v
  · intro x hx;cases hx
theorem bytesZ_eq (s:ByteArray) (p n:Nat) (h:p+n≤s.size):bytesZ s p n = (s.extract p (p+n)).data.toList.map fun b => (b.toNat:Int):=by
  have hl:s.data.toList.length = s.size:=Array.length_toList
  unfold bytesZ
  rw [extract_data,Nat.add_sub_cancel_left]
  apply List.ext_getElem
  · simp;omega
  · intro i h1 h2
    simp only [List.length_map,List.length_range] at h1
    rw [List.getElem_map,List.getElem_map,List.getElem_range,List.getElem_take,List.getElem_drop,← getD_get!',List.getD_eq_getElem?_getD,List.getElem?_eq_getElem (by omega)]
    rfl
theorem same_bytes (v:Int) (s:ByteArray) (p n:Nat) (h:p+n≤s.size):((strOfNums (charZ v)).toList = (s.extract p (p+n)).toList) = (charZ v = bytesZ s p n):=by
  rw [ByteArray.toList_eq,ByteArray.toList_eq,strOfNums_data,bytesZ_eq s p n h]
  generalize (s.extract p (p+n)).data.toList = L
  have hb:=charZ_byte v
  generalize charZ v = Z at hb
  apply propext
  constructor
  · rintro rfl
    rw [List.map_map]
    conv => lhs;rw [← List.map_id Z]
    refine List.map_congr_left (fun x hx => ?_)
    have:=hb x hx
    simp only [id,Function.comp,UInt8.toNat_ofNat']
    omega
  · rintro rfl
    rw [List.map_map]
    conv => rhs;rw [← List.map_id L]
    refine List.map_congr_left (fun x hx => ?_)
    simp [Function.comp]
theorem bt_get (s:ByteArray) (i:Nat) (h:i < s.size):bt s (i:Int) = ((s.get! i).toNat:Int):=by
  unfold bt
  rw [Int.toNat_natCast,dif_pos h,← getD_get!',List.getD_eq_getElem?_getD,List.getElem?_eq_getElem (by rw [Array.length_toList];exact h)]
  rfl
theorem at_end (k:Nat) (s:ByteArray) (p i:Nat) (v:Int) (h0:-1000000000≤v) (h1:v≤1000000000) (hi:1≤i) (hi2:i≤4) (hp:p+i≤s.size) (hs:s.size≤1000000) :
    r05_At.l1 (k+2) s p i v i = if charZ v = bytesZ s p i then some (v,(i:Int)) else r05_At.l0 (k+1) s p ((i:Int)+1):=by
  have hbz:(bytesZ s p i).length = i:=by unfold bytesZ;simp
  rw [r05_At.l1,if_neg (by omega)]
  by_cases hv:0≤v∧v≤1114111
  · rw [if_pos hv.1,if_pos hv.2,w32 (by omega) (by omega),char_f k v (by omega) (by omega),Option.bind_some,if_pos (by omega),w64 (n:=(p:Int)+i) (by omega) (by omega),if_pos (by omega),if_pos (by omega)]
    have e1:((p:Int)+(i:Int)).toNat = p+i:=by omega
    rw [e1,Int.toNat_natCast]
    by_cases e:charZ v = bytesZ s p i
    · rw [if_pos e,if_pos ((same_bytes v s p i hp).symm ▸ e)]
    · rw [if_neg e,if_neg (fun h => e ((same_bytes v s p i hp) ▸ h)),w64 (by omega) (by omega)]
  · have hz:charZ v = []:=charZ_bad (by omega)
    have hne:¬ charZ v = bytesZ s p i:=by
      intro e
      rw [← e,hz] at hbz
      simp at hbz
      omega
    rw [if_neg hne]
    by_cases c0:v ≥ 0
    · rw [if_pos c0,if_neg (by omega),w64 (by omega) (by omega)]
    · rw [if_neg c0,w64 (by omega) (by omega)]
theorem at_round (k:Nat) (s:ByteArray) (p i j:Nat) (v:Int) (h0:-10000000≤v) (h1:v≤10000000) (hj:j < i) (hi2:i≤4) (hp:p+i≤s.size) (hs:s.size≤1000000) :
    r05_At.l1 (k+1) s p i v j = r05_At.l1 k s p i (64 * v+((s.get! (p+j)).toNat:Int) - 128) ((j+1:Nat):Int):=by
  have hb:=byte_lt s (p+j)
  have e1:wrap64 ((p:Int)+(j:Int)) = ((p+j:Nat):Int):=by rw [w64 (by omega) (by omega)];omega
  rw [r05_At.l1,if_pos (by omega),e1,if_pos (by omega),if_pos (by omega),bt_get s (p+j) (by omega),w64 (n:=64 * v) (by omega) (by omega),w64 (n:=((s.get! (p+j)).toNat:Int)) (by omega) (by omega),w64 (n:=64 * v+_) (by omega) (by omega),w64 (by omega) (by omega),w64 (by omega) (by omega)]
  rfl
theorem at_size (k:Nat) (s:ByteArray) (p i:Nat) (hi:1≤i) (hi2:i≤4) (hp:p+i≤s.size) (hs:s.size≤1000000) :
    r05_At.l0 (k+5) s p i = r05_At.l1 k s p i (((s.get! p).toNat:Int) - (if i = 2 then 192 else if i = 3 then 224 else if i = 4 then 240 else 0)) 1:=by
  have hb:=byte_lt s p
  rw [r05_At.l0,if_pos (by omega),w64 (n:=(p:Int)+i) (by omega) (by omega),decide_eq_true (show (p:Int)+i≤s.size by omega),r05_At.j1,if_pos rfl,if_pos (by omega),if_pos (by omega),bt_get s p (by omega),w64 (n:=((s.get! p).toNat:Int)) (by omega) (by omega)]
  obtain h | h | h | h:i = 1 ∨ i = 2 ∨ i = 3 ∨ i = 4:=by omega
  · subst h
    rw [if_neg (by decide),r05_At.j2,if_neg (by decide),r05_At.j3,if_neg (by decide),r05_At.j4]
    simp
  · subst h
    rw [if_pos (by decide),r05_At.j2,if_neg (by decide),r05_At.j3,if_neg (by decide),r05_At.j4,w64 (by omega) (by omega)]
    simp
  · subst h
    rw [if_neg (by decide),r05_At.j2,if_pos (by decide),r05_At.j3,if_neg (by decide),r05_At.j4,w64 (by omega) (by omega)]
    simp
  · subst h
    rw [if_neg (by decide),r05_At.j2,if_neg (by decide),r05_At.j3,if_pos (by decide),r05_At.j4,w64 (by omega) (by omega)]
    simp
theorem at_out (k:Nat) (s:ByteArray) (p i:Nat) (hi:1≤i) (hi2:i≤5) (hp:i = 5 ∨ ¬ p+i≤s.size) (hs:s.size≤1000000) (hps:p≤s.size) :
    r05_At.l0 (k+2) s p i = some (0,0):=by
  rw [r05_At.l0]
  by_cases h5:i = 5
  · subst h5
    rw [if_neg (by decide),r05_At.j1,if_neg (by simp)]
  · rw [if_pos (by omega),w64 (n:=(p:Int)+i) (by omega) (by omega),decide_eq_false (show ¬ (p:Int)+i≤s.size by omega),r05_At.j1,if_neg (by simp)]
theorem at_f (k:Nat) (s:ByteArray) (p:Nat) (hp:p < s.size) (hs:s.size≤1000000) :
    r05_At.f (k+40) s p = some (if Good (Utf8.decode s p) then (((Utf8.decode s p).1:Int),((Utf8.decode s p).2:Int)) else (0,0)):=by
  have q0:=byte_lt s p
  have q1:=byte_lt s (p+1)
  have q2:=byte_lt s (p+2)
  have q3:=byte_lt s (p+3)
  have z1:bytesZ s p 1 = [((s.get! p).toNat:Int)]:=by simp [bytesZ,List.range_succ]
  have z2:bytesZ s p 2 = [((s.get! p).toNat:Int),((s.get! (p+1)).toNat:Int)]:=by simp [bytesZ,List.range_succ]
  have z3:bytesZ s p 3 = [((s.get! p).toNat:Int),((s.get! (p+1)).toNat:Int),((s.get! (p+2)).toNat:Int)]:=by simp [bytesZ,List.range_succ]
  have z4:bytesZ s p 4 = [((s.get! p).toNat:Int),((s.get! (p+1)).toNat:Int),((s.get! (p+2)).toNat:Int),((s.get! (p+3)).toNat:Int)]:=by simp [bytesZ,List.range_succ]
  have r1:∀ k,r05_At.l0 (k+7) s p 1 = if isOne (s.get! p).toNat then some (((s.get! p).toNat:Int),1) else r05_At.l0 (k+1) s p 2:=by
    intro k
    have h:=at_size (k+2) s p 1 (by omega) (by omega) (by omega) hs
    have h2:=at_end k s p 1 ((s.get! p).toNat:Int) (by omega) (by omega) (by omega) (by omega) (by omega) hs
    simp only [show ¬ (1:Nat) = 2 by decide,show ¬ (1:Nat) = 3 by decide,show ¬ (1:Nat) = 4 by decide,if_false,Int.sub_zero,Int.natCast_one] at h h2
    rw [show k+7 = k+2+5 by omega,h,h2,z1]
    by_cases c:isOne (s.get! p).toNat
    · rw [if_pos c,if_pos (charZ_1 (by unfold isOne at c;omega))]
    · rw [if_neg c,if_neg (fun e => c (by have:=(charZ_one _ _).1 e;unfold isOne;omega))];rfl
  have r2:∀ k,r05_At.l0 (k+8) s p 2 = if isTwo (s.size - p) (s.get! p).toNat (s.get! (p+1)).toNat then some (v2 (s.get! p).toNat (s.get! (p+1)).toNat,2) else if p+2≤s.size then r05_At.l0 (k+1) s p 3 else some (0,0):=by
    intro k
    by_cases hp2:p+2≤s.size
    · have h:=at_size (k+3) s p 2 (by omega) (by omega) (by omega) hs
      have h3:=at_round (k+2) s p 2 1 (((s.get! p).toNat:Int) - 192) (by omega) (by omega) (by omega) (by omega) (by omega) hs
      have h2:=at_end k s p 2 (v2 (s.get! p).toNat (s.get! (p+1)).toNat) (by unfold v2;omega) (by unfold v2;omega) (by omega) (by omega) (by omega) hs
      have e:64 * (((s.get! p).toNat:Int) - 192)+((s.get! (p+1)).toNat:Int) - 128 = v2 (s.get! p).toNat (s.get! (p+1)).toNat:=rfl
      rw [e] at h3
      simp only [if_true] at h
      have hl:=h.trans (h3.trans h2)
      rw [show k+8 = k+3+5 by omega]
      refine hl.trans ?_
      rw [z2,if_pos hp2]
      by_cases c:charZ (v2 (s.get! p).toNat (s.get! (p+1)).toNat) = [((s.get! p).toNat:Int),((s.get! (p+1)).toNat:Int)]
      · rw [if_pos c,if_pos (show isTwo _ _ _ from ⟨by omega,c⟩)];rfl
      · rw [if_neg c,if_neg (show ¬ isTwo _ _ _ from fun e => c e.2)];rfl
    · have:=at_out (k+6) s p 2 (by omega) (by omega) (.inr hp2) hs (by omega)
      rw [if_neg (show ¬ isTwo _ _ _ from fun e => hp2 (by have:=e.1;omega)),if_neg hp2]
      exact this
  have r3:∀ k,p+2≤s.size→r05_At.l0 (k+9) s p 3 = if isThree (s.size - p) (s.get! p).toNat (s.get! (p+1)).toNat (s.get! (p+2)).toNat then some (v3 (s.get! p).toNat (s.get! (p+1)).toNat (s.get! (p+2)).toNat,3) else if p+3≤s.size then r05_At.l0 (k+1) s p 4 else some (0,0):=by
    intro k _
    by_cases hp3:p+3≤s.size
    · have h:=at_size (k+4) s p 3 (by omega) (by omega) (by omega) hs
      have h3:=at_round (k+3) s p 3 1 (((s.get! p).toNat:Int) - 224) (by omega) (by omega) (by omega) (by omega) (by omega) hs
      have h4:=at_round (k+2) s p 3 2 (64 * (((s.get! p).toNat:Int) - 224)+((s.get! (p+1)).toNat:Int) - 128) (by omega) (by omega) (by omega) (by omega) (by omega) hs
      have h2:=at_end k s p 3 (v3 (s.get! p).toNat (s.get! (p+1)).toNat (s.get! (p+2)).toNat) (by unfold v3;omega) (by unfold v3;omega) (by omega) (by omega) (by omega) hs
      have e:64 * (64 * (((s.get! p).toNat:Int) - 224)+((s.get! (p+1)).toNat:Int) - 128)+((s.get! (p+2)).toNat:Int) - 128 = v3 (s.get! p).toNat (s.get! (p+1)).toNat (s.get! (p+2)).toNat:=rfl
      rw [e] at h4
      simp only [show ¬ (3:Nat) = 2 by decide,if_true,if_false] at h
      have hl:=h.trans (h3.trans (h4.trans h2))
      rw [show k+9 = k+4+5 by omega]
      refine hl.trans ?_
      rw [z3,if_pos hp3]
      by_cases c:charZ (v3 (s.get! p).toNat (s.get! (p+1)).toNat (s.get! (p+2)).toNat) = [((s.get! p).toNat:Int),((s.get! (p+1)).toNat:Int),((s.get! (p+2)).toNat:Int)]
      · rw [if_pos c,if_pos (show isThree _ _ _ _ from ⟨by omega,c⟩)];rfl
      · rw [if_neg c,if_neg (show ¬ isThree _ _ _ _ from fun e => c e.2)];rfl
    · have:=at_out (k+7) s p 3 (by omega) (by omega) (.inr hp3) hs (by omega)
      rw [if_neg (show ¬ isThree _ _ _ _ from fun e => hp3 (by have:=e.1;omega)),if_neg hp3]
      exact this
  have r4:∀ k,p+3≤s.size→r05_At.l0 (k+10) s p 4 = if isFour (s.size - p) (s.get! p).toNat (s.get! (p+1)).toNat (s.get! (p+2)).toNat (s.get! (p+3)).toNat then some (v4 (s.get! p).toNat (s.get! (p+1)).toNat (s.get! (p+2)).toNat (s.get! (p+3)).toNat,4) else if p+4≤s.size then r05_At.l0 (k+1) s p 5 else some (0,0):=by
    intro k _
    by_cases hp4:p+4≤s.size
    · have h:=at_size (k+5) s p 4 (by omega) (by omega) (by omega) hs
      have h3:=at_round (k+4) s p 4 1 (((s.get! p).toNat:Int) - 240) (by omega) (by omega) (by omega) (by omega) (by omega) hs
      have h4:=at_round (k+3) s p 4 2 (64 * (((s.get! p).toNat:Int) - 240)+((s.get! (p+1)).toNat:Int) - 128) (by omega) (by omega) (by omega) (by omega) (by omega) hs
      have h5:=at_round (k+2) s p 4 3 (64 * (64 * (((s.get! p).toNat:Int) - 240)+((s.get! (p+1)).toNat:Int) - 128)+((s.get! (p+2)).toNat:Int) - 128) (by omega) (by omega) (by omega) (by omega) (by omega) hs
      have h2:=at_end k s p 4 (v4 (s.get! p).toNat (s.get! (p+1)).toNat (s.get! (p+2)).toNat (s.get! (p+3)).toNat) (by unfold v4;omega) (by unfold v4;omega) (by omega) (by omega) (by omega) hs
      have e:64 * (64 * (64 * (((s.get! p).toNat:Int) - 240)+((s.get! (p+1)).toNat:Int) - 128)+((s.get! (p+2)).toNat:Int) - 128)+((s.get! (p+3)).toNat:Int) - 128 = v4 (s.get! p).toNat (s.get! (p+1)).toNat (s.get! (p+2)).toNat (s.get! (p+3)).toNat:=rfl
      rw [e] at h5
      simp only [show ¬ (4:Nat) = 2 by decide,show ¬ (4:Nat) = 3 by decide,if_true,if_false] at h
      have hl:=h.trans (h3.trans (h4.trans (h5.trans h2)))
      rw [show k+10 = k+5+5 by omega]
      refine hl.trans ?_
      rw [z4,if_pos hp4]
      by_cases c:charZ (v4 (s.get! p).toNat (s.get! (p+1)).toNat (s.get! (p+2)).toNat (s.get! (p+3)).toNat) = [((s.get! p).toNat:Int),((s.get! (p+1)).toNat:Int),((s.get! (p+2)).toNat:Int),((s.get! (p+3)).toNat:Int)]
      · rw [if_pos c,if_pos (show isFour _ _ _ _ _ from ⟨by omega,c⟩)];rfl
      · rw [if_neg c,if_neg (show ¬ isFour _ _ _ _ _ from fun e => c e.2)];rfl
    · have:=at_out (k+8) s p 4 (by omega) (by omega) (.inr hp4) hs (by omega)
      rw [if_neg (show ¬ isFour _ _ _ _ _ from fun e => hp4 (by have:=e.1;omega)),if_neg hp4]
      exact this
  have r5:∀ k,r05_At.l0 (k+2) s p 5 = some (0,0):=fun k => at_out k s p 5 (by omega) (by omega) (.inl rfl) hs (by omega)
  unfold r05_At.f
  rw [show k+40 = (k+33)+7 by omega,r1,show k+33+1 = (k+26)+8 by omega,r2]
  rw [decode_at]
  rcases decode_ways (s.size - p) _ _ _ _ (by omega) q0 q1 q2 q3 with ⟨h,e⟩ | ⟨g1,h,e1,e2⟩ | ⟨g1,g2,h,e1,e2⟩ | ⟨g1,g2,g3,h,e1,e2⟩ | ⟨g1,g2,g3,g4,e⟩
  · rw [if_pos h,e,if_pos (by unfold Good;unfold isOne at h;simp only;omega)];rfl
  · rw [if_neg g1,if_pos h,e1,e2,if_pos (by unfold Good;omega)];rfl
  · have hp2:p+2≤s.size:=by have:=h.1;omega
    rw [if_neg g1,if_neg g2,if_pos hp2,show k+26+1 = (k+18)+9 by omega,r3 _ hp2,if_pos h,e1,e2,if_pos (by unfold Good;omega)];rfl
  · have hp3:p+3≤s.size:=by have:=h.1;omega
    have hp2:p+2≤s.size:=by omega
    rw [if_neg g1,if_neg g2,if_pos hp2,show k+26+1 = (k+18)+9 by omega,r3 _ hp2,if_neg g3,if_pos hp3,show k+18+1 = (k+9)+10 by omega,r4 _ hp3,if_pos h,e1,e2,if_pos (by unfold Good;omega)];rfl
  · rw [if_neg g1,if_neg g2,e,if_neg (show ¬ Good (65533,1) from fun h => h ⟨rfl,Nat.le_refl _⟩)]
    by_cases hp2:p+2≤s.size
    · rw [if_pos hp2,show k+26+1 = (k+18)+9 by omega,r3 _ hp2,if_neg g3]
      by_cases hp3:p+3≤s.size
      · rw [if_pos hp3,show k+18+1 = (k+9)+10 by omega,r4 _ hp3,if_neg g4]
        by_cases hp4:p+4≤s.size
        · rw [if_pos hp4,r5]
        · rw [if_neg hp4]
      · rw [if_neg hp3]
    · rw [if_neg hp2]
theorem read_l0 {s:ByteArray} {p q:Nat} {l:List Int} (h:Run s p l q) (hs:s.size≤1000000) (hq:q≤s.size) (hb:q < s.size→¬ Good (Utf8.decode s q)) :
    ∀ (k:Nat) (acc:List Int),acc.length≤p→r05_Read.l0 (k+l.length+42) s acc p = some (acc ++ l,(q:Int)):=by
  induction h with
  | nil p =>
    intro k acc ha
    rw [List.length_nil,show k+0+42 = (k+1+40)+1 by omega,r05_Read.l0]
    by_cases hp:p < s.size
    · rw [if_pos (by omega),at_f (k+1) s p hp hs,if_neg (hb hp),Option.bind_some,if_pos rfl,List.append_nil]
    · rw [if_neg (by omega),List.append_nil]
  | @cons p q l hp hg hr ih =>
    intro k acc ha
    have hw:=width_pos s p hp
    have hf:=width_fits s p hp hg
    rw [List.length_cons,show k+(l.length+1)+42 = ((k+l.length+2)+40)+1 by omega,r05_Read.l0,if_pos (by omega),at_f _ s p hp hs,if_pos hg,Option.bind_some,if_neg (by simp only;omega),if_pos (by omega)]
    have e1:wrap64 ((p:Int)+((Utf8.decode s p).2:Int)) = ((p+(Utf8.decode s p).2:Nat):Int):=by rw [w64 (by omega) (by omega)];omega
    rw [e1]
    have:=ih hq hb k (acc ++ [((Utf8.decode s p).1:Int)]) (by simp only [List.length_append,List.length_cons,List.length_nil];omega)
    rw [show k+l.length+2+40 = k+l.length+42 by omega,this,List.append_assoc]
    rfl
theorem read_f {s:ByteArray} {q:Nat} {l:List Int} (h:Run s 0 l q) (hs:s.size≤1000000) (hq:q≤s.size) (hb:q < s.size→¬ Good (Utf8.decode s q)) (k:Nat) :
    r05_Read.f (k+l.length+42) s = some (l,(q:Int)):=by
  unfold r05_Read.f
  have:=read_l0 h hs hq hb k [] (Nat.le_refl _)
  rwa [List.nil_append] at this
theorem right_f (s:ByteArray) (hs:s.size≤1000000) (k:Nat) (hk:s.size+43≤k):r05_Right.f k s = some (!decide (0≤U.first s (s.size+1) 0)):=by
  obtain ⟨l,q,hr,hq,hb⟩:=run_exists s (s.size+1) 0 (by omega) (by omega)
  have hm:=hr.mono
  have hf:=hr.first hq hb (s.size+1) (by omega)
  unfold r05_Right.f
  rw [show k = (k - l.length - 42)+l.length+42 by omega,read_f hr hs hq hb,Option.bind_some,hf]
  by_cases h:q < s.size
  · rw [if_pos h,decide_eq_true (by omega:(0:Int)≤q)]
    simp
    omega
  · rw [if_neg h,show q = s.size by omega]
    simp
end Go.Proofs.YtoigkneoaemcfaaDoor.U
