/- Texts of the claim, one behind the other. -/
import Derived.Test.YtoigkneoaemcfaaDoorNoM2
import Derived.Test.YtoigkneoaemcfaaDoorNoM6
import Derived.Test.YtoigkneoaemcfaaDoorNoFU
import Derived.Test.YtoigkneoaemcfaaDoorNoM4
import Derived.Test.YtoigkneoaemcfaaDoorNoGNx2

namespace Go.Proofs.YtoigkneoaemcfaaDoor.GN
open Go.RowKit Go.Proofs.YtoigkneoaemcfaaDoorW.PrintWords Go.Proofs.YtoigkneoaemcfaaDoorW.PrintLast Go.Proofs.YtoigkneoaemcfaaDoorW.PrintMore
attribute [local go_sem] max2_int min2_int max_two min_two max_three min_three max_four min_four
set_option linter.unusedVariables false
set_option linter.unusedSimpArgs false
mutual
def r08_Check.l0:Nat→Int→Int→List Int→List ByteArray→List Int→List Int→Int→Int→Int→Option (Int)
 | 0,_,_,_,_,_,_,_,_,_ => none
 | k+1,x5,x330000,x330001,x330002,x330003,x331000,x331001,x331002,x331003 => if x5 < (x330001.length:Int) then (if 0≤x5 then (if x5 < (x331000.length:Int) then ((r07_In.f (rd x331000 x5) (rd x330001 x5)).bind fun t333 => (if t333 = true then (r08_Check.l0 k (wrap64 (x5+1)) x330000 x330001 x330002 x330003 x331000 x331001 x331002 x331003) else (some 10))) else (none)) else (none)) else (if (x330002.length:Int) = x331001 then (r08_Check.l1 k 0 x330000 x330001 x330002 x330003 x331000 x331001 x331002 x331003) else (some 11))
def r08_Check.l1:Nat→Int→Int→List Int→List ByteArray→List Int→List Int→Int→Int→Int→Option (Int)
 | 0,_,_,_,_,_,_,_,_,_ => none
 | k+1,x6,x330000,x330001,x330002,x330003,x331000,x331001,x331002,x331003 => if x6 < (x330002.length:Int) then (if 0≤x6 then ((r05_Right.f k (rdOf ByteArray.empty x330002 x6)).bind fun t335 => (if t335 = true then (r08_Check.l1 k (wrap64 (x6+1)) x330000 x330001 x330002 x330003 x331000 x331001 x331002 x331003) else (some 11))) else (none)) else (if (x330003.length:Int) < x331002 then (some 12) else (if x331003 ≥ 0 then (if (x330003.length:Int) > x331003 then (some 12) else (some 0)) else (some 0)))
end
def r08_Check.f (k:Nat) (a0_0:Int) (l0_1:List Int) (l0_2:List ByteArray) (l0_3:List Int) (l1_0:List Int) (a1_1:Int) (a1_2:Int) (a1_3:Int):Option (Int):=if (l0_1.length:Int) = (l1_0.length:Int) then (r08_Check.l0 k 0 a0_0 l0_1 l0_2 l0_3 l1_0 a1_1 a1_2 a1_3) else (some 10)
end Go.Proofs.YtoigkneoaemcfaaDoor.GN
namespace Go.Proofs.YtoigkneoaemcfaaDoor.Rec
open Go.RowKit Go.Proofs.YtoigkneoaemcfaaDoor.GN Go.Proofs.YtoigkneoaemcfaaDoorW.PrintWords Go.Proofs.YtoigkneoaemcfaaDoorW.PrintLast Go.Proofs.YtoigkneoaemcfaaDoorW.PrintMore
set_option linter.unusedVariables false
set_option linter.unusedSimpArgs false
theorem w64 {n:Int} (h:-9223372036854775808≤n) (h2:n≤9223372036854775807):wrap64 n = n:=by unfold wrap64;omega
theorem rd_nat (xs:List Int) (i:Nat):rd xs (i:Int) = xs.getD i 0:=by unfold rd;rw [Int.toNat_natCast]
structure Fit (l1:List Int) (l2:List ByteArray) (l3:List Int):Prop where
  n1:l1.length≤1000
  n2:l2.length≤1000
  n3:l3.length≤1000000
  s2:∀ s ∈ l2,s.size≤5000
theorem txt_at {l:List ByteArray} {i:Nat} (h:i < l.length):l.drop i = rdOf ByteArray.empty l (i:Int) :: l.drop (i+1):=by
  rw [List.drop_eq_getElem_cons h]
  unfold rdOf
  rw [Int.toNat_natCast,List.getD_eq_getElem?_getD,List.getElem?_eq_getElem h];rfl
theorem num_at {l:List Int} {i:Nat} (h:i < l.length):l.drop i = rd l (i:Int) :: l.drop (i+1):=by
  rw [List.drop_eq_getElem_cons h,rd_nat,List.getD_eq_getElem?_getD,List.getElem?_eq_getElem h];rfl
def inB (c n:Int):Bool:=if c = 1 then true else if c = 2 then decide (-140737488355328≤n∧n≤140737488355328) else if c = 3 then decide (0≤n∧n≤140737488355328) else if c = 4 then decide (0≤n∧n≤255) else if c = 5 then decide (n = 0 ∨ n = 1) else false
theorem in_code (c n:Int):schema_In.f c n = some (inB c n):=by
  unfold schema_In.f inB
  repeat' split
  all_goals first | rfl | (exfalso;omega) | (congr 1;rw [Bool.eq_iff_iff];simp;omega) | (congr 1;rw [Bool.eq_iff_iff];simp;done) | (congr 1;rw [eq_comm];simp;omega)
theorem in_ref (c n:Int):r07_In.f c n = some (inB c n):=by
  unfold r07_In.f inB
  repeat' split
  all_goals first | rfl | (exfalso;omega) | (congr 1;rw [Bool.eq_iff_iff];simp;omega) | (congr 1;rw [Bool.eq_iff_iff];simp;done) | (congr 1;rw [eq_comm];simp;omega) | (congr 1;rw [eq_comm,decide_eq_false_iff_not];rintro (rfl | rfl) <;> simp_all [wrap64])
def allIn:List Int→List Int→Bool
  | c :: cs,n :: ns => inB c n && allIn cs ns
  | _,_ => true
theorem numbers_l0 (k:Nat) (ns cs:List Int) (he:ns.length = cs.length) (hn:ns.length≤1000):∀ d i:Nat,i+d = ns.length→field_numbers.l0 (k+d+1) cs ns (ns.length:Int) (i:Int) = some (allIn (cs.drop i) (ns.drop i)):=by
  intro d
  induction d with
  | zero =>
    intro i hi
    rw [field_numbers.l0,if_neg (by omega),List.drop_of_length_le (by omega)];rfl
  | succ d ih =>
    intro i hi
    rw [show k+(d+1)+1 = (k+d+1)+1 by omega,field_numbers.l0,if_pos (by omega),if_pos (by omega),if_pos (by omega),if_pos (by omega),in_code,Option.bind_some,num_at (l:=cs) (by omega),num_at (l:=ns) (by omega),allIn,w64 (by omega) (by omega)]
    cases inB (rd cs i) (rd ns i) with
    | false => rfl
    | true => rw [if_pos rfl,Bool.true_and];exact ih (i+1) (by omega)
def kidsV (n least most:Int):Int:=if n < least then 12 else if 0≤most∧most < n then 12 else 0
def chk (l1:List Int) (l2:List ByteArray) (l3:List Int) (m0:List Int) (n1 n2 n3:Int):Int :=
  if l1.length≠m0.length then 10 else if allIn m0 l1 = false then 10 else if (l2.length:Int)≠n1 then 11 else if l2.any badT = true then 11 else kidsV l3.length n2 n3
theorem fchk (k:Nat) (hk:9000≤k) (a0:Int) {l1:List Int} {l2:List ByteArray} {l3:List Int} (m0:List Int) (n1 n2 n3:Int) (F:Fit l1 l2 l3):field_Check.f k a0 l1 l2 l3 m0 n1 n2 n3 = some (chk l1 l2 l3 m0 n1 n2 n3):=by
  have f1:=F.n1
  have f2:=F.n2
  have hq:l2.length≤8796093022208∧(l2.all fun s => decide (s.size≤70368744177664)) = true:=⟨by omega,List.all_eq_true.2 fun s hs => decide_eq_true (by have:=F.s2 s hs;omega)⟩
  unfold chk
  by_cases he:l1.length = m0.length
  · have e1:field_numbers.f k l1 m0 = some (allIn m0 l1):=by
      unfold field_numbers.f
      rw [if_pos (by omega)]
      have:=numbers_l0 (k - l1.length - 1) l1 m0 he f1 l1.length 0 (by omega)
      rw [show k = k - l1.length - 1+l1.length+1 by omega]
      simpa using this
    rw [if_neg (by simpa using he)]
    unfold field_Check.f
    rw [e1,Option.bind_some,if_pos hq]
    congr 1
    unfold checkV kidsV
    cases allIn m0 l1 with
    | false => rfl
    | true =>
      simp only [Bool.true_eq_false,if_false]
      by_cases h1:(l2.length:Int) = n1 <;> cases h2:l2.any badT <;> simp only [h1,ne_eq,not_true,not_false_eq_true,false_or,true_or,or_true,if_true,if_false,Bool.false_eq_true]
      repeat' split
      all_goals first | rfl | (exfalso;omega)
  · have e1:field_numbers.f k l1 m0 = some false:=by
      unfold field_numbers.f
      rw [if_neg (by omega)]
    rw [if_pos he]
    unfold field_Check.f
    rw [e1,Option.bind_some,if_pos hq]
    rfl
def newS (a0:Int):List Int × Int × Int × Int × Bool:=if a0 = 1 then ([],1,0,(-1),true) else if a0 = 2 then ([2,2,2],0,1,1,true) else if a0 = 3 then ([3,3,3],1,0,0,true) else if a0 = 4 then ([3],1,0,0,true) else if a0 = 5 then ([3],2,0,0,true) else if a0 = 6 then ([1],0,0,(-1),true) else if a0 = 7 then ([4,4,4,5],0,0,0,true) else if a0 = 8 then ([2,2,2],0,1,1,true) else ([],0,0,0,false)
theorem new_code (a0:Int):schema_New.f a0 = some (newS a0):=by
  unfold schema_New.f newS
  repeat' split
  all_goals rfl
theorem spec_ref (k:Nat) (hk:1≤k) (a1:Int):r07_Spec.f k 2 a1 = some (newS a1):=by
  obtain ⟨k,rfl⟩:∃ j,k = j+1:=⟨k - 1,by omega⟩
  by_cases h1:a1 = 1
  · subst h1;rfl
  by_cases h2:a1 = 2
  · subst h2;rfl
  by_cases h3:a1 = 3
  · subst h3;rfl
  by_cases h4:a1 = 4
  · subst h4;rfl
  by_cases h5:a1 = 5
  · subst h5;rfl
  by_cases h6:a1 = 6
  · subst h6;rfl
  by_cases h7:a1 = 7
  · subst h7;rfl
  by_cases h8:a1 = 8
  · subst h8;rfl
  simp [r07_Spec.f,r07_Spec.j1,newS,h1,h2,h3,h4,h5,h6,h7,h8]
end Go.Proofs.YtoigkneoaemcfaaDoor.Rec
