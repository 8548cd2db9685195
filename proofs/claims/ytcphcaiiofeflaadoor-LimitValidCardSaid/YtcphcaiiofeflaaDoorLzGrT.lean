import Derived.Test.YtcphcaiiofeflaaDoorLzGrR
namespace Go.Proofs.YtcphcaiiofeflaaDoor.GL
open Go.RowKit Go.Proofs.YtcphcaiiofeflaaDoorW.PrintWords Go.Proofs.YtcphcaiiofeflaaDoorW.PrintLast Go.Proofs.YtcphcaiiofeflaaDoorW.PrintMore
set_option linter.unusedVariables false
set_option linter.unusedSimpArgs false
structure Fit (l1:List Int) (l2:List ByteArray) (l3:List Int):Prop where
  n1:l1.length≤100
  n2:l2.length≤100
  n3:l3.length≤300
  s2:∀ s ∈ l2,s.size≤500
theorem txt_at {l:List ByteArray} {i:Nat} (h:i < l.length):l.drop i = rdOf ByteArray.empty l (i:Int) :: l.drop (i+1):=by
  rw [List.drop_eq_getElem_cons h]
  unfold rdOf
  rw [Int.toNat_natCast,List.getD_eq_getElem?_getD,List.getElem?_eq_getElem h];rfl
theorem great8t_loop (a0:Int) (l1:List Int) (l2:List ByteArray) (l3:List Int) (h2:l2.length≤100):∀ d i:Nat,i+d = l2.length→∃ b,(∀ k,r08_Great.l0 (k+d+1) (i:Int) a0 l1 l2 l3 = some b)∧(b = false→∀ s ∈ l2.drop i,s.size≤500):=by
  intro d
  induction d with
  | zero =>
    intro i hi
    refine ⟨false,fun k => ?_,fun _ s hs => ?_⟩
    · rw [r08_Great.l0,if_neg (by omega)]
    · rw [List.drop_of_length_le (by omega)] at hs;cases hs
  | succ d ih =>
    intro i hi
    obtain ⟨b,h,hb⟩:=ih (i+1) (by omega)
    by_cases hc:((rdOf ByteArray.empty l2 i).size:Int) > 500
    · refine ⟨true,fun k => ?_,fun h => by cases h⟩
      rw [r08_Great.l0,if_pos (by omega),if_pos (by omega),if_pos hc]
    · refine ⟨b,fun k => ?_,fun hf s hs => ?_⟩
      · rw [show k+(d+1)+1 = (k+d+1)+1 by omega,r08_Great.l0,if_pos (by omega),if_pos (by omega),if_neg hc,w64 (by omega) (by omega)]
        exact h k
      · rw [txt_at (by omega)] at hs
        rcases List.mem_cons.1 hs with rfl | hs
        · omega
        · exact hb hf s hs
theorem great8t (a0:Int) (l1:List Int) (l2:List ByteArray) (l3:List Int):∃ b,(∀ k,r08_Great.f (k+103) a0 l1 l2 l3 = some b)∧(b = false→Fit l1 l2 l3):=by
  have htrue:∀ k,r08_Great.j0 (k+103) true a0 l1 l2 l3 = some true:=fun k => by rw [show k+103 = (k+102)+1 by omega,r08_Great.j0,if_pos rfl]
  by_cases h1:(l1.length:Int) > 100
  · refine ⟨true,fun k => ?_,fun h => by cases h⟩
    rw [r08_Great.f,if_pos h1];exact htrue k
  · by_cases h2:(l2.length:Int) > 100
    · refine ⟨true,fun k => ?_,fun h => by cases h⟩
      rw [r08_Great.f,if_neg h1,if_pos h2];exact htrue k
    · by_cases h3:(l3.length:Int) > 300
      · refine ⟨true,fun k => ?_,fun h => by cases h⟩
        rw [r08_Great.f,if_neg h1,if_neg h2,decide_eq_true h3];exact htrue k
      · obtain ⟨b,h,hb⟩:=great8t_loop a0 l1 l2 l3 (by omega) l2.length 0 (by omega)
        refine ⟨b,fun k => ?_,fun hf => ⟨by omega,by omega,by omega,fun s hs => hb hf s (by simpa using hs)⟩⟩
        rw [r08_Great.f,if_neg h1,if_neg h2,decide_eq_false h3,show k+103 = (k+101 - l2.length+l2.length+1)+1 by omega,r08_Great.j0,if_neg (by simp)]
        exact h _
def Fits (l0:List (S53)):Prop:=∀ y ∈ l0,Fit y.f1 y.f2 y.f3
theorem fits_get {l0:List (S53)} (h:Fits l0) {i:Nat} (hi:i < l0.length):Fit (rd_T53 l0 (i:Int)).f1 (rd_T53 l0 (i:Int)).f2 (rd_T53 l0 (i:Int)).f3:=by
  rw [rdT_get hi];exact h _ (List.getElem_mem _)
theorem great9t_loop (l0:List (S53)) (a1:Int) (hn:l0.length≤60):∀ d i:Nat,i+d = l0.length→∃ b,(∀ k,r09_Great.l0 (k+103+d+1) (i:Int) l0 a1 = some b)∧(b = false→∀ y ∈ l0.drop i,Fit y.f1 y.f2 y.f3):=by
  intro d
  induction d with
  | zero =>
    intro i hi
    refine ⟨false,fun k => ?_,fun _ y hy => ?_⟩
    · rw [r09_Great.l0,if_neg (by omega)]
    · rw [List.drop_of_length_le (by omega)] at hy;cases hy
  | succ d ih =>
    intro i hi
    obtain ⟨b,h1,h2⟩:=ih (i+1) (by omega)
    obtain ⟨b2,h3,h4⟩:=great8t (rd_T53 l0 (i:Int)).f0 (rd_T53 l0 (i:Int)).f1 (rd_T53 l0 (i:Int)).f2 (rd_T53 l0 (i:Int)).f3
    have hstep:∀ k,r09_Great.l0 (k+103+(d+1)+1) (i:Int) l0 a1 = if b2 = true then some true else some b:=by
      intro k
      have e:=h3 (k+d+1)
      rw [show k+d+1+103 = k+103+d+1 by omega] at e
      rw [show k+103+(d+1)+1 = (k+103+d+1)+1 by omega,r09_Great.l0,if_pos (by omega),if_pos (by omega),e,Option.bind_some,w64 (by omega) (by omega)]
      rw [show ((i:Int)+1) = ((i+1:Nat):Int) by omega,h1 k]
    cases b2 with
    | true => exact ⟨true,fun k => hstep k,fun h => by cases h⟩
    | false =>
      refine ⟨b,fun k => hstep k,fun hb y hy => ?_⟩
      rw [List.drop_eq_getElem_cons (show i < l0.length by omega),← rdT_get (show i < l0.length by omega)] at hy
      rcases List.mem_cons.1 hy with rfl | hy
      · exact h4 rfl
      · exact h2 hb y hy
theorem great9t (l0:List (S53)) (a1:Int):∃ K b,(∀ k,r09_Great.f (k+K) l0 a1 = some b)∧(b = false→Small l0∧Fits l0):=by
  obtain ⟨K,b,h1,h2⟩:=great9 l0 a1
  refine ⟨K,b,h1,fun hb => ⟨h2 hb,?_⟩⟩
  subst hb
  have hS:=h2 rfl
  have hl:=hS.len
  obtain ⟨b,h3,h4⟩:=great9t_loop l0 a1 hl l0.length 0 (by omega)
  have h5:=h1 (500+l0.length)
  obtain ⟨v,h6,h7⟩:=redges_run l0 a1 (by omega) l0.length 0 0 (by omega)
  rw [r09_Great.f,if_neg (by omega),r09_Edges.f] at h5
  have h8:=h6 (499+K)
  rw [show ((0:Nat):Int) = 0 from rfl,show 499+K+l0.length+1 = 500+l0.length+K by omega] at h8
  rw [h8,Option.bind_some] at h5
  have h9:=h7 (by omega) (by have:=hS.sum;omega)
  have hs:=hS.sum
  rw [decide_eq_false (by omega),show 500+l0.length+K = (499+l0.length+K)+1 by omega,r09_Great.j0,if_neg (by simp)] at h5
  have h10:=h3 (499+K - 104)
  rw [show ((0:Nat):Int) = 0 from rfl,show 499+K - 104+103+l0.length+1 = 499+l0.length+K by omega] at h10
  rw [h10] at h5
  have hbf:b = false:=Option.some.inj h5
  have h11:=h4 hbf
  rw [List.drop_zero] at h11
  exact h11
end Go.Proofs.YtcphcaiiofeflaaDoor.GL
