/- Texts of the claim, one behind the other. -/
import Derived.Test.YtoigkneoaemcfaaDoorNoM5
import Derived.Test.YtoigkneoaemcfaaDoorNoDCurC
import Derived.Test.YtoigkneoaemcfaaDoorNoM2
namespace Go.Proofs.YtoigkneoaemcfaaDoor.Cur
open Go.RowKit Go.Proofs.YtoigkneoaemcfaaDoorW.PrintWords Go.Proofs.YtoigkneoaemcfaaDoorW.PrintLast Go.Proofs.YtoigkneoaemcfaaDoorW.PrintMore Go.Proofs.YtoigkneoaemcfaaDoor.VM Go.Proofs.YtoigkneoaemcfaaDoor.B
set_option linter.unusedVariables false
set_option linter.unusedSimpArgs false
theorem uint_of {c:Cur} {v nx:Nat} {most:Int} (he:c.e = 0) (hg:gt c.b c.at' = ((v:Int),(nx:Int),0)) (h1:(v:Int)≤most) (h2:v≤16777216):c.uint most = ((v:Int),{ c with at':=nx }):=by
  unfold Cur.uint
  rw [hg,if_neg (by simpa using he),if_neg (by simp),if_neg (by simp only;omega)]
  simp
theorem uint_big {c:Cur} {v nx:Nat} {most:Int} (he:c.e = 0) (hg:gt c.b c.at' = ((v:Int),(nx:Int),0)) (h1:most < v ∨ 16777216 < v):c.uint most = (0,{ c with e:=19 }):=by
  unfold Cur.uint
  rw [hg,if_neg (by simpa using he),if_neg (by simp),if_pos (by simp only;omega)]
theorem int_of {c:Cur} {v nx:Nat} (he:c.e = 0) (hg:gt c.b c.at' = ((v:Int),(nx:Int),0)):c.int = (zag v,{ c with at':=nx }):=by
  unfold Cur.int
  rw [hg,if_neg (by simpa using he),if_neg (by simp)]
  simp
theorem bytes_of {c:Cur} {n:Nat} (he:c.e = 0) (h:c.at'+n≤c.b.size):c.bytes n = (c.b.extract c.at' (c.at'+n),{ c with at':=c.at'+n }):=by
  unfold Cur.bytes Cur.left
  rw [if_neg (by simpa using he),if_neg (by omega),if_neg (by omega),Int.toNat_natCast]
theorem text_of {c:Cur} {v nx:Nat} {most:Int} (he:c.e = 0) (hg:gt c.b c.at' = ((v:Int),(nx:Int),0)) (h0:0≤most) (h1:(v:Int)≤most) (h2:v≤16777216) (h3:nx+v≤c.b.size) :
    c.text most = (c.b.extract nx (nx+v),{ c with at':=nx+v }):=by
  unfold Cur.text
  rw [if_neg (by simpa using he),if_neg (by omega),uint_of he hg h1 h2]
  simp only
  rw [bytes_of (c:={ c with at':=nx }) he h3]
  unfold Cur.textOf
  rw [if_neg (by simpa using he)]
theorem text_big {c:Cur} {v nx:Nat} {most:Int} (he:c.e = 0) (hg:gt c.b c.at' = ((v:Int),(nx:Int),0)) (h0:0≤most) (h1:most < v):c.text most = (⟨#[]⟩,{ c with e:=19 }):=by
  unfold Cur.text
  rw [if_neg (by simpa using he),if_neg (by omega),uint_big he hg (.inl h1)]
  simp only
  have hb:Cur.bytes { c with e:=19 } 0 = (⟨#[]⟩,{ c with e:=19 }):=by unfold Cur.bytes;rw [if_pos (by simp)]
  rw [hb]
  unfold Cur.textOf
  rw [if_pos (by simp)]
theorem uint_inv {c:Cur} {m:Int} (h:(c.uint m).2.e = 0):c.e = 0∧∃ v n:Nat,c.uint m = ((v:Int),⟨c.b,c.at'+n,0⟩)∧enc v = ((bl c.b).drop c.at').take n∧c.at'+n≤c.b.size∧(v:Int)≤m∧v≤16777216∧1≤n∧n≤10:=by
  have hc:=gt_cases c.b c.at'
  unfold Cur.uint at h ⊢
  by_cases h1:c.e≠0
  · rw [if_pos h1] at h;exact absurd h h1
  rw [if_neg h1] at h ⊢
  have he:c.e = 0:=by simpa using h1
  by_cases h2:(gt c.b c.at').2.2≠0
  · rw [if_pos h2] at h;exact absurd h h2
  rw [if_neg h2] at h ⊢
  by_cases h3:(gt c.b c.at').1 > m ∨ (gt c.b c.at').1 > 16777216
  · rw [if_pos h3] at h;exact absurd h (by simp)
  rw [if_neg h3] at h ⊢
  refine ⟨he,?_⟩
  rcases hc with ⟨v,n,e,h4,h5,h6,h7,h8⟩ | e | e
  · rw [e] at h3 ⊢
    simp only at h3 ⊢
    refine ⟨v,n,?_,h8,h5,by omega,by omega,h6,h7⟩
    rw [show ((c.at':Int)+(n:Int)).toNat = c.at'+n by omega,he]
  · rw [e] at h2;exact absurd (by simp) h2
  · rw [e] at h2;exact absurd (by simp) h2
theorem int_inv {c:Cur} (h:c.int.2.e = 0):c.e = 0∧∃ v n:Nat,c.int = (zag v,⟨c.b,c.at'+n,0⟩)∧enc v = ((bl c.b).drop c.at').take n∧c.at'+n≤c.b.size∧v < 18446744073709551616∧1≤n∧n≤10:=by
  have hc:=gt_cases c.b c.at'
  unfold Cur.int at h ⊢
  by_cases h1:c.e≠0
  · rw [if_pos h1] at h;exact absurd h h1
  rw [if_neg h1] at h ⊢
  have he:c.e = 0:=by simpa using h1
  by_cases h2:(gt c.b c.at').2.2≠0
  · rw [if_pos h2] at h;exact absurd h h2
  rw [if_neg h2] at h ⊢
  refine ⟨he,?_⟩
  rcases hc with ⟨v,n,e,h4,h5,h6,h7,h8⟩ | e | e
  · rw [e]
    simp only
    refine ⟨v,n,?_,h8,h5,h4,h6,h7⟩
    rw [show ((c.at':Int)+(n:Int)).toNat = c.at'+n by omega,he]
  · rw [e] at h2;exact absurd (by simp) h2
  · rw [e] at h2;exact absurd (by simp) h2
theorem bytes_inv {c:Cur} {n:Int} (h:(c.bytes n).2.e = 0):c.e = 0∧0≤n∧n≤c.left∧c.bytes n = (c.b.extract c.at' (c.at'+n.toNat),{ c with at':=c.at'+n.toNat }):=by
  unfold Cur.bytes at h ⊢
  by_cases h1:c.e≠0
  · rw [if_pos h1] at h;exact absurd h h1
  rw [if_neg h1] at h ⊢
  by_cases h2:n < 0
  · rw [if_pos h2] at h;exact absurd h (by simp)
  rw [if_neg h2] at h ⊢
  by_cases h3:c.left < n
  · rw [if_pos h3] at h;exact absurd h (by simp)
  rw [if_neg h3]
  exact ⟨by simpa using h1,by omega,by omega,rfl⟩
theorem take_more (L:List Nat) (a n:Nat):L.take (a+n) = L.take a ++ (L.drop a).take n:=by
  rw [List.take_add]
theorem text_inv {c:Cur} {m:Int} (h:(c.text m).2.e = 0):c.e = 0∧∃ (s:ByteArray) (q:Nat),c.text m = (s,⟨c.b,q,0⟩)∧c.at'≤q∧q≤c.b.size∧(bl c.b).take q = (bl c.b).take c.at' ++ (enc s.size ++ bl s)∧(s.size:Int)≤max m 0∧s.size≤16777216:=by
  unfold Cur.text at h ⊢
  by_cases h1:c.e≠0
  · rw [if_pos h1] at h;exact absurd h h1
  rw [if_neg h1] at h ⊢
  refine ⟨by simpa using h1,?_⟩
  unfold Cur.textOf at h ⊢
  by_cases h2:((c.uint (if m < 0 then 0 else m)).2.bytes (c.uint (if m < 0 then 0 else m)).1).2.e≠0
  · rw [if_pos h2] at h;exact absurd h h2
  rw [if_neg h2] at h ⊢
  obtain ⟨b1,b2,b3,b4⟩:=bytes_inv h
  obtain ⟨_,v,n,u1,u2,u3,u4,u5,u6,u7⟩:=uint_inv b1
  rw [u1] at b2 b3 b4 ⊢
  simp only [Cur.left,Int.toNat_natCast] at b2 b3 b4
  simp only
  rw [b4]
  have hs:(c.b.extract (c.at'+n) (c.at'+n+v)).size = v:=by rw [ByteArray.size_extract];omega
  refine ⟨_,_,rfl,by omega,by omega,?_,by rw [hs];split at u4 <;> omega,by rw [hs];omega⟩
  rw [hs,u2,extract_bl,List.drop_take,show c.at'+n+v - (c.at'+n) = v by omega,Nat.add_assoc,take_more,take_more,List.drop_drop]
theorem fail_e {c:Cur} (h:c.e≠0) (k:Int):c.fail k = c:=by unfold Cur.fail;rw [if_neg h]
end Go.Proofs.YtoigkneoaemcfaaDoor.Cur
namespace Go.Proofs.YtoigkneoaemcfaaDoor.Tab
theorem total_append (l m:List ByteArray):total (l ++ m) = total l+total m:=by simp [total]
theorem total_cons (s:ByteArray) (m:List ByteArray):total (s :: m) = s.size+total m:=by simp [total]
end Go.Proofs.YtoigkneoaemcfaaDoor.Tab

namespace Go.Proofs.YtoigkneoaemcfaaDoor.GN
open Go.RowKit Go.Proofs.YtoigkneoaemcfaaDoorW.PrintWords Go.Proofs.YtoigkneoaemcfaaDoorW.PrintLast Go.Proofs.YtoigkneoaemcfaaDoorW.PrintMore
attribute [local go_sem] max2_int min2_int max_two min_two max_three min_three max_four min_four
set_option linter.unusedVariables false
set_option linter.unusedSimpArgs false
mutual
def r07_Spec.j0:Nat→Int→Bool→Int→Int→Int→Option (List Int × Int × Int × Int × Bool)
 | 0,_,_,_,_,_ => none
 | k+1,x10,x18,x277001,x277002,x277003 => if x18 = true then (some ((([3]:List Int)),1,0,0,true)) else (if x10 = 5 then (some (([]:List Int),1,0,0,true)) else (if x10 = 6 then (some ((([4]:List Int)),0,0,0,true)) else (some (([]:List Int),x277001,x277002,x277003,false))))
def r07_Spec.j1:Nat→Int→Bool→Int→Int→Int→Option (List Int × Int × Int × Int × Bool)
 | 0,_,_,_,_,_ => none
 | k+1,x31,x35,x277001,x277002,x277003 => if x35 = true then (some ((([2,2,2]:List Int)),0,1,1,true)) else (if x31 = 3 then (some ((([3,3,3]:List Int)),1,0,0,true)) else (if x31 = 4 then (some ((([3]:List Int)),1,0,0,true)) else (if x31 = 5 then (some ((([3]:List Int)),2,0,0,true)) else (if x31 = 6 then (some ((([1]:List Int)),0,0,(-1),true)) else (if x31 = 7 then (some ((([4,4,4,5]:List Int)),0,0,0,true)) else (some (([]:List Int),x277001,x277002,x277003,false)))))))
end
def r07_Spec.f (k:Nat) (a0:Int) (a1:Int):Option (List Int × Int × Int × Int × Bool):=if a0 = 1 then (if a1 = 1 then (some (([]:List Int),0,0,(-1),true)) else (if a1 = 2 then (some ((([2,2,2,2]:List Int)),0,1,1,true)) else (if a1 = 3 then (r07_Spec.j0 k a1 (a1 == 3) 0 0 0) else (r07_Spec.j0 k a1 (a1 == 4) 0 0 0)))) else (if a1 = 1 then (some (([]:List Int),1,0,(-1),true)) else (if a1 = 2 then (r07_Spec.j1 k a1 (a1 == 2) 0 0 0) else (r07_Spec.j1 k a1 (a1 == 8) 0 0 0)))
def r05_Char.j0:Nat→Int→Bool→Option (ByteArray)
 | 0,_,_ => none
 | k+1,x0,x17 => if x17 = true then (some (⟨#[]⟩:ByteArray)) else (if (wrap64 (x0)) < 128 then (some (strOfNums (([(wrap64 (x0)) % 256]:List Int)))) else (if (wrap64 (x0)) < 2048 then (some (strOfNums (([(wrap64 (192+(wrap64 (Int.tdiv (wrap64 (x0)) 64)))) % 256,(wrap64 (128+(Int.tmod (wrap64 (x0)) 64))) % 256]:List Int)))) else (if (wrap64 (x0)) < 65536 then (some (strOfNums (([(wrap64 (224+(wrap64 (Int.tdiv (wrap64 (x0)) 4096)))) % 256,(wrap64 (128+(Int.tmod (wrap64 (Int.tdiv (wrap64 (x0)) 64)) 64))) % 256,(wrap64 (128+(Int.tmod (wrap64 (x0)) 64))) % 256]:List Int)))) else (some (strOfNums (([(wrap64 (240+(wrap64 (Int.tdiv (wrap64 (x0)) 262144)))) % 256,(wrap64 (128+(Int.tmod (wrap64 (Int.tdiv (wrap64 (x0)) 4096)) 64))) % 256,(wrap64 (128+(Int.tmod (wrap64 (Int.tdiv (wrap64 (x0)) 64)) 64))) % 256,(wrap64 (128+(Int.tmod (wrap64 (x0)) 64))) % 256]:List Int)))))))
def r05_Char.f (k:Nat) (a0:Int):Option (ByteArray):=if a0 < 0 then (r05_Char.j0 k a0 true) else (if a0 > 1114111 then (r05_Char.j0 k a0 true) else (if a0 ≥ 55296 then (r05_Char.j0 k a0 (decide (a0≤57343))) else (r05_Char.j0 k a0 false)))
end Go.Proofs.YtoigkneoaemcfaaDoor.GN

namespace Go.Proofs.YtoigkneoaemcfaaDoor.GN
open Go.RowKit Go.Proofs.YtoigkneoaemcfaaDoorW.PrintWords Go.Proofs.YtoigkneoaemcfaaDoorW.PrintLast Go.Proofs.YtoigkneoaemcfaaDoorW.PrintMore
attribute [local go_sem] max2_int min2_int max_two min_two max_three min_three max_four min_four
set_option linter.unusedVariables false
set_option linter.unusedSimpArgs false
mutual
def r05_At.l0:Nat→ByteArray→Int→Int→Option (Int × Int)
 | 0,_,_,_ => none
 | k+1,x0,x1,x6 => if x6≤4 then (r05_At.j1 k x0 x1 x6 (decide ((wrap64 (x1+x6))≤(x0.size:Int)))) else (r05_At.j1 k x0 x1 x6 false)
def r05_At.j1:Nat→ByteArray→Int→Int→Bool→Option (Int × Int)
 | 0,_,_,_,_ => none
 | k+1,x0,x1,x6,x18 => if x18 = true then (if 0≤x1 then (if x1 < (x0.size:Int) then (if x6 = 2 then (r05_At.j2 k x0 x1 x6 (wrap64 ((wrap64 (bt x0 x1)) - 192))) else (r05_At.j2 k x0 x1 x6 (wrap64 (bt x0 x1)))) else (none)) else (none)) else (some (0,0))
def r05_At.j2:Nat→ByteArray→Int→Int→Int→Option (Int × Int)
 | 0,_,_,_,_ => none
 | k+1,x0,x1,x6,x7 => if x6 = 3 then (r05_At.j3 k x0 x1 x6 (wrap64 (x7 - 224))) else (r05_At.j3 k x0 x1 x6 x7)
def r05_At.j3:Nat→ByteArray→Int→Int→Int→Option (Int × Int)
 | 0,_,_,_,_ => none
 | k+1,x0,x1,x6,x7 => if x6 = 4 then (r05_At.j4 k x0 x1 x6 (wrap64 (x7 - 240))) else (r05_At.j4 k x0 x1 x6 x7)
def r05_At.j4:Nat→ByteArray→Int→Int→Int→Option (Int × Int)
 | 0,_,_,_,_ => none
 | k+1,x0,x1,x6,x7 => r05_At.l1 k x0 x1 x6 x7 1
def r05_At.l1:Nat→ByteArray→Int→Int→Int→Int→Option (Int × Int)
 | 0,_,_,_,_,_ => none
 | k+1,x0,x1,x6,x7,x8 => if x8 < x6 then (if 0≤(wrap64 (x1+x8)) then (if (wrap64 (x1+x8)) < (x0.size:Int) then (r05_At.l1 k x0 x1 x6 (wrap64 ((wrap64 ((wrap64 (64 * x7))+(wrap64 (bt x0 (wrap64 (x1+x8)))))) - 128)) (wrap64 (x8+1))) else (none)) else (none)) else (if x7 ≥ 0 then (if x7≤1114111 then ((r05_Char.f k (wrap32 (x7))).bind fun t316 => (if 0≤x1 then (if x1≤(wrap64 (x1+x6)) then (if (wrap64 (x1+x6))≤(x0.size:Int) then (if t316.toList = (x0.extract (x1:Int).toNat ((wrap64 (x1+x6)):Int).toNat).toList then (some (wrap32 (x7),x6)) else (r05_At.l0 k x0 x1 (wrap64 (x6+1)))) else (none)) else (none)) else (none))) else (r05_At.l0 k x0 x1 (wrap64 (x6+1)))) else (r05_At.l0 k x0 x1 (wrap64 (x6+1))))
end
def r05_At.f (k:Nat) (a0:ByteArray) (a1:Int):Option (Int × Int):=r05_At.l0 k a0 a1 1
end Go.Proofs.YtoigkneoaemcfaaDoor.GN

namespace Go.Proofs.YtoigkneoaemcfaaDoor.GN
open Go.RowKit Go.Proofs.YtoigkneoaemcfaaDoorW.PrintWords Go.Proofs.YtoigkneoaemcfaaDoorW.PrintLast Go.Proofs.YtoigkneoaemcfaaDoorW.PrintMore
attribute [local go_sem] max2_int min2_int max_two min_two max_three min_three max_four min_four
set_option linter.unusedVariables false
set_option linter.unusedSimpArgs false
def r05_Read.l0:Nat→ByteArray→List Int→Int→Option (List Int × Int)
 | 0,_,_,_ => none
 | k+1,x0,x4,x5 => if x5 < (x0.size:Int) then ((r05_At.f k x0 x5).bind fun bt320 => (if bt320.2 = 0 then (some (x4,x5)) else (if x4.length < 35184372088832 then (r05_Read.l0 k x0 (x4 ++ [bt320.1]) (wrap64 (x5+bt320.2))) else (none)))) else (some (x4,x5))
def r05_Read.f (k:Nat) (a0:ByteArray):Option (List Int × Int):=r05_Read.l0 k a0 (([]:List Int)) 0
def r05_Right.f (k:Nat) (a0:ByteArray):Option (Bool):=(r05_Read.f k a0).bind fun bt325 => (some (bt325.2 == (a0.size:Int)))
def r07_In.f (a0:Int) (a1:Int):Option (Bool):=if a0 = 1 then (some true) else (if a0 = 2 then (if a1 ≥ 0 then (if a1≤140737488355328 then (some true) else (if a1 < 0 then (some (decide (a1 ≥ (-140737488355328)))) else (some false))) else (if a1 < 0 then (some (decide (a1 ≥ (-140737488355328)))) else (some false))) else (if a0 = 3 then (if a1 ≥ 0 then (some (decide (a1≤140737488355328))) else (some false)) else (if a0 = 4 then (if a1 ≥ 0 then (some (decide (a1 < 256))) else (some false)) else (if a0 = 5 then (if (wrap64 (a1 * a1)) = a1 then (if a1 ≥ 0 then (some (decide (a1≤1))) else (some false)) else (some false)) else (some false)))))
end Go.Proofs.YtoigkneoaemcfaaDoor.GN
