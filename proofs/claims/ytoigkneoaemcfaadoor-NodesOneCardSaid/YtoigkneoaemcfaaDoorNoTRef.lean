import Derived.Test.YtoigkneoaemcfaaDoorNoM6
import Derived.Test.YtoigkneoaemcfaaDoorNoM1
import Derived.Test.YtoigkneoaemcfaaDoorNoGNx12
namespace Go.Proofs.YtoigkneoaemcfaaDoor.Tab
open Go.RowKit Go.Lib Go.Proofs.YtoigkneoaemcfaaDoorW.PrintWords Go.Proofs.YtoigkneoaemcfaaDoorW.PrintLast Go.Proofs.YtoigkneoaemcfaaDoorW.PrintMore Go.Proofs.YtoigkneoaemcfaaDoor.B Go.Proofs.YtoigkneoaemcfaaDoor.Bd Go.Proofs.YtoigkneoaemcfaaDoor.GN
set_option linter.unusedVariables false
set_option linter.unusedSimpArgs false
theorem wr64 {n:Int} (h:-9223372036854775808≤n) (h2:n≤9223372036854775807):wrap64 n = n:=by unfold wrap64;omega
theorem text_at {l:List ByteArray} {i:Nat} (h:i < l.length):l.drop i = rdOf ByteArray.empty l (i:Int) :: l.drop (i+1):=by
  rw [List.drop_eq_getElem_cons h]
  unfold rdOf
  rw [Int.toNat_natCast,List.getD_eq_getElem?_getD,List.getElem?_eq_getElem h]
  rfl
theorem toList_eq {a b:ByteArray}:(a.toList = b.toList) = (a = b):=by
  rw [eq_iff_iff]
  constructor
  · intro h
    simp only [ByteArray.toList_eq] at h
    cases a;cases b
    simp only [Array.toList_inj] at h
    rw [h]
  · rintro rfl;rfl
def findT (l:List ByteArray) (s:ByteArray):Int:=if s ∈ l then (l.idxOf s:Int) else -1
theorem find_l0 (l:List ByteArray) (s:ByteArray) (hl:l.length≤100000000) (k:Nat):∀ d i:Nat,i+d = l.length→r06_Find.l0 (k+d+1) l s (i:Int) = some (if s ∈ l.drop i then ((i+(l.drop i).idxOf s:Nat):Int) else -1):=by
  intro d
  induction d with
  | zero =>
    intro i hi
    rw [r06_Find.l0,if_neg (by omega),List.drop_of_length_le (by omega)];simp
  | succ d ih =>
    intro i hi
    rw [show k+(d+1)+1 = (k+d+1)+1 by omega,r06_Find.l0,if_pos (by omega),if_pos (by omega),text_at (by omega)]
    by_cases he:rdOf ByteArray.empty l (i:Int) = s
    · rw [if_pos (by rw [he]),he,if_pos List.mem_cons_self,List.idxOf_cons_self,Nat.add_zero]
    · rw [if_neg (fun h => he (toList_eq.mp h)),wr64 (by omega) (by omega),show ((i:Int)+1) = ((i+1:Nat):Int) by omega,ih (i+1) (by omega)]
      congr 1
      by_cases hm:s ∈ l.drop (i+1)
      · rw [if_pos hm,if_pos (List.mem_cons_of_mem _ hm),List.idxOf_cons,beq_false_of_ne he,cond_false]
        omega
      · rw [if_neg hm,if_neg (fun h => (List.mem_cons.1 h).elim (fun h2 => he h2.symm) hm)]
theorem find_f (l:List ByteArray) (s:ByteArray) (hl:l.length≤100000000) (k:Nat) (hk:l.length+1≤k):r06_Find.f k l s = some (findT l s):=by
  have:=find_l0 l s hl (k - l.length - 1) l.length 0 (by omega)
  rw [show k - l.length - 1+l.length+1 = k by omega,List.drop_zero,Nat.zero_add] at this
  exact this
theorem intern_f (l:List ByteArray) (s:ByteArray) (hl:l.length≤100000000) (k:Nat) (hk:l.length+1≤k):r06_Intern.f k l s = some ((intern l s).1,((intern l s).2:Int)):=by
  unfold r06_Intern.f intern
  rw [find_f l s hl k hk,Option.bind_some]
  unfold findT
  by_cases h:s ∈ l
  · rw [if_pos h,if_pos h,if_pos (by omega)]
  · rw [if_neg h,if_neg h,if_neg (by omega)]
    simp only [Option.bind_some,List.length_nil,List.nil_append]
    rw [if_pos (by omega),if_pos (by omega)]
def Tame (l:List ByteArray):Prop:=l.length≤200∧∀ s ∈ l,s.size≤500
instance (l:List ByteArray):Decidable (Tame l):=inferInstanceAs (Decidable (_∧_))
theorem mv_kept {n:Nat} {w0 w w':World} {S:Nat→Prop} (h1:Below n w0 w) (h2:Below n w0 w') (hk:Kept w w' S):Mv S w w' :=
  ⟨h2.os.trans h1.os.symm,h2.tape.trans h1.tape.symm,h2.output.trans h1.output.symm,hk.1,hk.2⟩
theorem own_reads {w:World} {base:Nat} {v:Value} {l:List ByteArray} (h:w.ownsRow base 9 1 v l.length (l.map Value.string)):∃ A c,v = .slice A l.length c∧l.length≤c∧Kd.C Kd.string w A l.length l:=Kd.R_reads (Kw.R_of_own (enc:=Value.string) (h1:=fun _ => rfl) h)
end Go.Proofs.YtoigkneoaemcfaaDoor.Tab
