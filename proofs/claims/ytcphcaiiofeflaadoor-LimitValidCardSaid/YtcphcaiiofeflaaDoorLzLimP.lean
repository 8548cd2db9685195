import Derived.Test.YtcphcaiiofeflaaDoorLzGrDp
import Derived.Test.YtcphcaiiofeflaaDoorLzGrT
import Derived.Test.YtcphcaiiofeflaaDoorLzChk
import Derived.Test.YtcphcaiiofeflaaDoorLzGLx8
import Derived.Test.YtcphcaiiofeflaaDoorLzGLx7
import Derived.Test.YtcphcaiiofeflaaDoorLzGLx3
import Derived.Test.YtcphcaiiofeflaaDoorLzGLx27
import Derived.Test.YtcphcaiiofeflaaDoorLzGLx16
import Derived.Test.YtcphcaiiofeflaaDoorLzGLx14
namespace Go.Proofs.YtcphcaiiofeflaaDoor.GL
open Go.RowKit Go.Proofs.YtcphcaiiofeflaaDoorW.PrintWords Go.Proofs.YtcphcaiiofeflaaDoorW.PrintLast Go.Proofs.YtcphcaiiofeflaaDoorW.PrintMore
set_option linter.unusedVariables false
set_option linter.unusedSimpArgs false
def Ev {α:Type} (f:Nat→Option α) (v:α):Prop:=∃ K,∀ k,K≤k→f k = some v
theorem ev_of {α:Type} {f:Nat→Option α} {v:α} (h:∃ K,∀ k,f (k+K) = some v):Ev f v:=by
  obtain ⟨K,h⟩:=h
  exact ⟨K,fun k hk => by have:=h (k - K);rwa [Nat.sub_add_cancel hk] at this⟩
def newS (a0:Int):List Int × Int × Int × Int × Bool:=if a0 = 1 then ([],1,0,(-1),true) else if a0 = 2 then ([2,2,2],0,1,1,true) else if a0 = 3 then ([3,3,3],1,0,0,true) else if a0 = 4 then ([3],1,0,0,true) else if a0 = 5 then ([3],2,0,0,true) else if a0 = 6 then ([1],0,0,(-1),true) else if a0 = 7 then ([4,4,4,5],0,0,0,true) else if a0 = 8 then ([2,2,2],0,1,1,true) else ([],0,0,0,false)
theorem new_code (a0:Int):schema_New.f a0 = some (newS a0):=by
  unfold schema_New.f newS
  repeat' split
  all_goals rfl
theorem spec_ref (k:Nat) (hk:1≤k) (a1:Int):r07_Spec.f k 2 a1 = some (newS a1):=by
  obtain ⟨k,rfl⟩:∃ j,k = j+1:=⟨k - 1,by omega⟩
  by_cases h1:a1 = 1
  · subst h1;rfl
  by_cases h2:a1 = 2
  · subst h2;rfl
  by_cases h3:a1 = 3
  · subst h3;rfl
  by_cases h4:a1 = 4
  · subst h4;rfl
  by_cases h5:a1 = 5
  · subst h5;rfl
  by_cases h6:a1 = 6
  · subst h6;rfl
  by_cases h7:a1 = 7
  · subst h7;rfl
  by_cases h8:a1 = 8
  · subst h8;rfl
  simp [r07_Spec.f,r07_Spec.j1,newS,h1,h2,h3,h4,h5,h6,h7,h8]
def nodeV (y:S53):Int:=if (newS y.f0).2.2.2.2 = true then chk y.f1 y.f2 y.f3 (newS y.f0).1 (newS y.f0).2.1 (newS y.f0).2.2.1 (newS y.f0).2.2.2.1 else 9
def typedFrom:List (S53)→Nat→Int × Int
  | [],_ => (0,0)
  | y :: ys,i => if nodeV y = 0 then typedFrom ys (i+1) else (nodeV y,(i:Int))
theorem node_at {l0:List (S53)} {i:Nat} (h:i < l0.length):l0.drop i = rd_T53 l0 (i:Int) :: l0.drop (i+1):=by rw [List.drop_eq_getElem_cons h,rdT_get h]
theorem nodeV_cases (y:S53):nodeV y = 0 ∨ nodeV y = 9 ∨ nodeV y = 10 ∨ nodeV y = 11 ∨ nodeV y = 12:=by
  unfold nodeV
  split
  · rcases chk_cases y.f1 y.f2 y.f3 (newS y.f0).1 (newS y.f0).2.1 (newS y.f0).2.2.1 (newS y.f0).2.2.2.1 with h | h | h | h <;> simp [h]
  · simp
theorem typedFrom_cases:∀ (l:List (S53)) (i:Nat),(typedFrom l i).1 = 0 ∨ (typedFrom l i).1 = 9 ∨ (typedFrom l i).1 = 10 ∨ (typedFrom l i).1 = 11 ∨ (typedFrom l i).1 = 12
  | [],_ => .inl rfl
  | y :: ys,i => by
    unfold typedFrom
    split
    · exact typedFrom_cases ys (i+1)
    · exact nodeV_cases y
theorem typedFrom_zero:∀ (l:List (S53)) (i:Nat),(typedFrom l i).1 = 0↔∀ y ∈ l,nodeV y = 0
  | [],_ => by simp [typedFrom]
  | y :: ys,i => by
    unfold typedFrom
    split
    · rename_i h
      rw [typedFrom_zero ys (i+1)]
      simp [h]
    · rename_i h
      simp [h]
section
variable {l0:List (S53)}
theorem typed_l0 (hF:Fits l0) (hn:l0.length≤60) (k:Nat) (hk:1000≤k):∀ d i:Nat,i+d = l0.length→limit_Typed.l0 (k+d+1) l0 (l0.length:Int) (i:Int) = some (typedFrom (l0.drop i) i):=by
  intro d
  induction d with
  | zero =>
    intro i hi
    rw [limit_Typed.l0,if_neg (by omega),List.drop_of_length_le (by omega)];rfl
  | succ d ih =>
    intro i hi
    rw [show k+(d+1)+1 = (k+d+1)+1 by omega,limit_Typed.l0,if_pos (by omega),if_pos (by omega),if_pos (by omega),new_code,Option.bind_some,node_at (by omega),typedFrom,nodeV]
    by_cases hb:(newS (rd_T53 l0 (i:Int)).f0).2.2.2.2 = true
    · rw [if_pos hb,if_pos hb,fchk _ (by omega) _ _ _ _ _ (fits_get hF (by omega)),Option.bind_some,w64 (by omega) (by omega)]
      split
      · exact ih (i+1) (by omega)
      · rfl
    · rw [if_neg hb,if_neg hb,if_neg (by omega)]
theorem typed_ev (hF:Fits l0) (hn:l0.length≤60) (a1:Int):Ev (fun k => limit_Typed.f k l0 a1) (typedFrom l0 0):=by
  refine ⟨1000+l0.length+1,fun k hk => ?_⟩
  have:=typed_l0 hF hn (k - l0.length - 1) (by omega) l0.length 0 (by omega)
  rw [show k - l0.length - 1+l0.length+1 = k by omega] at this
  exact this
theorem rtyped_l0 (hF:Fits l0) (hn:l0.length≤60) (a1:Int) (k:Nat) (hk:1000≤k):∀ d i:Nat,i+d = l0.length→r12_Typed.l0 (k+d+1) 2 (i:Int) l0 a1 = some (typedFrom (l0.drop i) i):=by
  intro d
  induction d with
  | zero =>
    intro i hi
    rw [r12_Typed.l0,if_neg (by omega),List.drop_of_length_le (by omega)];rfl
  | succ d ih =>
    intro i hi
    rw [show k+(d+1)+1 = (k+d+1)+1 by omega,r12_Typed.l0,if_pos (by omega),if_pos (by omega),spec_ref _ (by omega),Option.bind_some,node_at (by omega),typedFrom,nodeV]
    by_cases hb:(newS (rd_T53 l0 (i:Int)).f0).2.2.2.2 = true
    · rw [if_pos hb,if_pos hb,rchk _ (by omega) _ _ _ _ _ (fits_get hF (by omega)),Option.bind_some,w64 (by omega) (by omega)]
      split
      · exact ih (i+1) (by omega)
      · rfl
    · rw [if_neg hb,if_neg hb,if_neg (by omega)]
theorem rtyped_ev (hF:Fits l0) (hn:l0.length≤60) (a1:Int):Ev (fun k => r12_Typed.f k l0 a1 2) (typedFrom l0 0):=by
  refine ⟨1000+l0.length+1,fun k hk => ?_⟩
  have:=rtyped_l0 hF hn a1 (k - l0.length - 1) (by omega) l0.length 0 (by omega)
  rw [show k - l0.length - 1+l0.length+1 = k by omega] at this
  exact this
end
def rB (b0 b1 b2 b3 b4:Int):Bool:=LimW.wB b0 b1 b2 b3 b4 16777216 16777216 16777216 16777216 16777216 && LimW.wB 0 0 0 0 0 b0 b1 b2 b3 b4
theorem wB_iff (x0 x1 x2 x3 x4 y0 y1 y2 y3 y4:Int):LimW.wB x0 x1 x2 x3 x4 y0 y1 y2 y3 y4 = true↔(x0≤y0∧x1≤y1∧x2≤y2∧x3≤y3∧x4≤y4):=by unfold LimW.wB;rw [decide_eq_true_eq]
theorem rB_iff (b0 b1 b2 b3 b4:Int):rB b0 b1 b2 b3 b4 = true↔(b0≤16777216∧b1≤16777216∧b2≤16777216∧b3≤16777216∧b4≤16777216)∧0≤b0∧0≤b1∧0≤b2∧0≤b3∧0≤b4:=by
  unfold rB
  rw [Bool.and_eq_true,wB_iff,wB_iff]
theorem within_code (x0 x1 x2 x3 x4 y0 y1 y2 y3 y4:Int):limit_Within.f x0 x1 x2 x3 x4 y0 y1 y2 y3 y4 = some (LimW.wB x0 x1 x2 x3 x4 y0 y1 y2 y3 y4):=rfl
theorem right_code (b0 b1 b2 b3 b4:Int):limit_Right.f b0 b1 b2 b3 b4 = some (rB b0 b1 b2 b3 b4):=by
  unfold limit_Right.f rB
  simp only [within_code,Option.bind_some]
  cases LimW.wB b0 b1 b2 b3 b4 16777216 16777216 16777216 16777216 16777216 <;> simp
theorem rwithin (x0 x1 x2 x3 x4 y0 y1 y2 y3 y4:Int):r12_Within.f x0 x1 x2 x3 x4 y0 y1 y2 y3 y4 = some (LimW.wB x0 x1 x2 x3 x4 y0 y1 y2 y3 y4):=by
  unfold r12_Within.f LimW.wB
  repeat' split
  all_goals (congr 1;rw [Bool.eq_iff_iff];simp;try omega)
theorem rright_l0 (x3:List Int) (h5:x3.length = 5) (k:Nat):∀ d i:Nat,i+d = 5→r12_Right.l0 (k+d+1) x3 (i:Int) = some ((x3.drop i).all fun v => decide (0≤v∧v≤16777216)):=by
  intro d
  induction d with
  | zero =>
    intro i hi
    rw [r12_Right.l0,if_neg (by omega),List.drop_of_length_le (by omega)];rfl
  | succ d ih =>
    intro i hi
    rw [show k+(d+1)+1 = (k+d+1)+1 by omega,r12_Right.l0,if_pos (by omega),if_pos (by omega),if_pos (by omega),num_at (by omega),List.all_cons,w64 (by omega) (by omega)]
    by_cases h1:rd x3 (i:Int) < 0
    · rw [if_pos h1,decide_eq_false (by omega)];rfl
    · by_cases h2:rd x3 (i:Int) > 16777216
      · rw [if_neg h1,if_pos h2,decide_eq_false (by omega)];rfl
      · rw [if_neg h1,if_neg h2,decide_eq_true (by omega),Bool.true_and]
        exact ih (i+1) (by omega)
theorem rright (k:Nat) (hk:6≤k) (b0 b1 b2 b3 b4:Int):r12_Right.f k b0 b1 b2 b3 b4 = some (rB b0 b1 b2 b3 b4):=by
  have:=rright_l0 [b0,b1,b2,b3,b4] rfl (k - 6) 5 0 rfl
  rw [show k - 6+5+1 = k by omega] at this
  refine this.trans ?_
  congr 1
  rw [Bool.eq_iff_iff,rB_iff]
  simp
  omega
theorem texts_bound:∀ (l:List (S53)),Fits l→(textsOf l).length≤100 * l.length∧((textsOf l).map ByteArray.size).sum≤50000 * l.length
  | [],_ => ⟨Nat.le_refl _,Nat.le_refl _⟩
  | y :: ys,h => by
    obtain ⟨h1,h2⟩:=texts_bound ys (fun z hz => h z (List.mem_cons_of_mem _ hz))
    have hy:=h y List.mem_cons_self
    have e:textsOf (y :: ys) = y.f2 ++ textsOf ys:=rfl
    have hs:∀ (l:List ByteArray),(∀ s ∈ l,s.size≤500)→(l.map ByteArray.size).sum≤500 * l.length:=by
      intro l
      induction l with
      | nil => intro _;exact Nat.le_refl _
      | cons a l ih =>
        intro h
        have:=ih (fun s hs => h s (List.mem_cons_of_mem _ hs))
        have:=h a List.mem_cons_self
        simp only [List.map_cons,List.sum_cons,List.length_cons]
        omega
    have h3:=hs y.f2 hy.s2
    have h4:=hy.n2
    rw [e,List.length_append,List.map_append,List.sum_append,List.length_cons]
    omega
theorem tb_small {l0:List (S53)} (hF:Fits l0) (hn:l0.length≤60):TBb l0 = true:=by
  obtain ⟨h1,h2⟩:=texts_bound l0 hF
  unfold TBb
  simp only [Bool.and_eq_true,decide_eq_true_eq]
  omega
theorem textN_le {l0:List (S53)} (hF:Fits l0):textN l0≤50000 * l0.length:=by
  refine Nat.le_trans ?_ (texts_bound l0 hF).2
  have:∀ (ts:List ByteArray) (p:List ByteArray × Nat),(ts.foldl tStep p).2≤p.2+(ts.map ByteArray.size).sum:=by
    intro ts
    induction ts with
    | nil => intro p;exact Nat.le_refl _
    | cons t ts ih =>
      intro p
      have h:=ih (tStep p t)
      have:(tStep p t).2≤p.2+t.size:=by unfold tStep;split <;> simp
      simp only [List.foldl_cons,List.map_cons,List.sum_cons]
      omega
  have h:=this (textsOf l0) ([],0)
  unfold textN
  simpa using h
def measD (l0:List (S53)) (a1:Int):Int:=if (checkP l0 a1).1 = 0 then (H l0 a1.toNat:Int) else 0
theorem meas_ev {l0:List (S53)} (hS:Small l0) (hF:Fits l0) (a1:Int):Ev (fun k => limit_Measure.f k l0 a1) (0,(l0.length:Int),(restK l0 0:Int),measD l0 a1,(textN l0:Int)):=by
  obtain ⟨K,h⟩:=ev_of (f:=fun k => graph_Depth.f k l0 a1) (gdepth l0 a1 (small_len hS) (small_sum hS))
  simp only at h
  refine ⟨K+l0.length+1,fun k hk => ?_⟩
  have e1:=gedges hS a1 (k - l0.length - 1)
  rw [show k - l0.length - 1+l0.length+1 = k by omega] at e1
  show limit_Measure.f k l0 a1 = _
  rw [limit_Measure.f,e1,Option.bind_some,h k (by omega),Option.bind_some,if_pos (tb_small hF hS.len)]
  rfl
def rStep (m:List ByteArray) (t:ByteArray):List ByteArray:=if t ∈ m then m else m ++ [t]
theorem rStep_len (m:List ByteArray) (t:ByteArray):(rStep m t).length≤m.length+1:=by unfold rStep;split <;> simp
theorem toList_inj {a b:ByteArray}:a.toList = b.toList↔a = b:=by
  constructor
  · intro h
    rw [ByteArray.toList_eq,ByteArray.toList_eq] at h
    cases a;cases b
    simp only [Array.toList_inj] at h
    rw [h]
  · rintro rfl;rfl
theorem find_run (l:List ByteArray) (a:ByteArray) (hn:l.length≤1000000):∀ d i:Nat,i+d = l.length→∃ v:Int,(0≤v↔a ∈ l.drop i)∧∀ k,r06_Find.l0 (k+d+1) l a (i:Int) = some v:=by
  intro d
  induction d with
  | zero =>
    intro i hi
    refine ⟨-1,?_,fun k => ?_⟩
    · rw [List.drop_of_length_le (by omega)];simp
    · rw [r06_Find.l0,if_neg (by omega)]
  | succ d ih =>
    intro i hi
    obtain ⟨v,h1,h2⟩:=ih (i+1) (by omega)
    by_cases he:rdOf ByteArray.empty l (i:Int) = a
    · refine ⟨i,?_,fun k => ?_⟩
      · rw [txt_at (by omega),he];simp
      · rw [show k+(d+1)+1 = (k+d+1)+1 by omega,r06_Find.l0,if_pos (by omega),if_pos (by omega),if_pos (toList_inj.2 he)]
    · refine ⟨v,?_,fun k => ?_⟩
      · rw [txt_at (by omega),h1,List.mem_cons]
        constructor
        · exact .inr
        · rintro (h | h)
          · exact absurd h.symm he
          · exact h
      · rw [show k+(d+1)+1 = (k+d+1)+1 by omega,r06_Find.l0,if_pos (by omega),if_pos (by omega),if_neg (fun h => he (toList_inj.1 h)),w64 (by omega) (by omega)]
        exact h2 k
theorem intern_tells (l:List ByteArray) (a:ByteArray) (hn:l.length≤1000000) (k:Nat) (hk:l.length+1≤k):∃ v,r06_Intern.f k l a = some (rStep l a,v):=by
  obtain ⟨v,h1,h2⟩:=find_run l a hn l.length 0 (by omega)
  have h3:=h2 (k - l.length - 1)
  rw [show k - l.length - 1+l.length+1 = k by omega] at h3
  rw [r06_Intern.f,r06_Find.f,show r06_Find.l0 k l a 0 = some v from h3,Option.bind_some]
  rw [List.drop_zero] at h1
  by_cases hv:v ≥ 0
  · refine ⟨v,?_⟩
    rw [if_pos hv,rStep,if_pos (h1.1 hv)]
  · refine ⟨(l.length:Int),?_⟩
    rw [if_neg hv,rStep,if_neg (fun h => hv (h1.2 h)),Option.bind_some,if_pos (by simp;omega),Option.bind_some,if_pos (by simp;omega)]
    rfl
theorem texts_l1 {l0:List (S53)} (hn:l0.length≤60) (a1:Int) {i:Nat} (hi:i < l0.length) (hl:((rd_T53 l0 (i:Int)).f2).length≤100) (k:Nat) (hk:20000≤k):∀ (e j:Nat) (m:List ByteArray),j+e = ((rd_T53 l0 (i:Int)).f2).length→m.length+e≤10000 →
    r12_Texts.l1 (k+e+1) m (i:Int) (j:Int) l0 a1 = r12_Texts.l0 k ((((rd_T53 l0 (i:Int)).f2).drop j).foldl rStep m) ((i+1:Nat):Int) l0 a1:=by
  intro e
  induction e with
  | zero =>
    intro j m hj hm
    rw [r12_Texts.l1,if_pos (by omega),if_pos (by omega),if_neg (by omega),List.drop_of_length_le (by omega),w64 (by omega) (by omega)]
    rfl
  | succ e ih =>
    intro j m hj hm
    obtain ⟨v,h⟩:=intern_tells m (rdOf ByteArray.empty (rd_T53 l0 (i:Int)).f2 (j:Int)) (by omega) (k+e+1) (by omega)
    rw [show k+(e+1)+1 = (k+e+1)+1 by omega,r12_Texts.l1,if_pos (by omega),if_pos (by omega),if_pos (by omega),if_pos (by omega),h,Option.bind_some,txt_at (by omega),List.foldl_cons,w64 (by omega) (by omega)]
    have:=rStep_len m (rdOf ByteArray.empty (rd_T53 l0 (i:Int)).f2 (j:Int))
    exact ih (j+1) (rStep m (rdOf ByteArray.empty (rd_T53 l0 (i:Int)).f2 (j:Int))) (by omega) (by omega)
theorem fold_len:∀ (ts:List ByteArray) (m:List ByteArray),(ts.foldl rStep m).length≤m.length+ts.length
  | [],m => Nat.le_refl _
  | t :: ts,m => by
    have h:=fold_len ts (rStep m t)
    have:=rStep_len m t
    simp only [List.foldl_cons,List.length_cons]
    omega
theorem texts_l0 {l0:List (S53)} (hF:Fits l0) (hn:l0.length≤60) (a1:Int):∀ (d i:Nat) (m:List ByteArray),i+d = l0.length→m.length≤100 * i→∃ K,∀ k,K≤k→r12_Texts.l0 k m (i:Int) l0 a1 = some ((textsOf (l0.drop i)).foldl rStep m):=by
  intro d
  induction d with
  | zero =>
    intro i m hi hm
    refine ⟨1,fun k hk => ?_⟩
    obtain ⟨k,rfl⟩:∃ j,k = j+1:=⟨k - 1,by omega⟩
    rw [r12_Texts.l0,if_neg (by omega),List.drop_of_length_le (by omega)]
    rfl
  | succ d ih =>
    intro i m hi hm
    have hl:=(fits_get hF (show i < l0.length by omega)).n2
    have hf:=fold_len ((rd_T53 l0 (i:Int)).f2) m
    obtain ⟨K,h⟩:=ih (i+1) (((rd_T53 l0 (i:Int)).f2).foldl rStep m) (by omega) (by omega)
    refine ⟨K+20000+((rd_T53 l0 (i:Int)).f2).length+2,fun k hk => ?_⟩
    obtain ⟨q,rfl⟩:∃ q,k = (q+((rd_T53 l0 (i:Int)).f2).length+1)+1:=⟨k - ((rd_T53 l0 (i:Int)).f2).length - 2,by omega⟩
    have h1:=texts_l1 hn a1 (show i < l0.length by omega) hl q (by omega) ((rd_T53 l0 (i:Int)).f2).length 0 m (by omega) (by omega)
    rw [r12_Texts.l0,if_pos (by omega)]
    refine (show _ = _ from h1).trans ?_
    rw [List.drop_zero,h q (by omega),node_at (l0:=l0) (i:=i) (by omega)]
    have e:textsOf (rd_T53 l0 (i:Int) :: l0.drop (i+1)) = (rd_T53 l0 (i:Int)).f2 ++ textsOf (l0.drop (i+1)):=rfl
    rw [e,List.foldl_append]
theorem bytes_l0 (T:List ByteArray) (hn:T.length≤1000000) (k:Nat):∀ (d i:Nat) (x:Nat),i+d = T.length→x+((T.drop i).map ByteArray.size).sum≤1000000000000→r06_Bytes.l0 (k+d+1) T (x:Int) (i:Int) = some ((x+((T.drop i).map ByteArray.size).sum:Nat):Int):=by
  intro d
  induction d with
  | zero =>
    intro i x hi hx
    rw [r06_Bytes.l0,if_neg (by omega),List.drop_of_length_le (by omega)];rfl
  | succ d ih =>
    intro i x hi hx
    rw [txt_at (by omega)] at hx ⊢
    simp only [List.map_cons,List.sum_cons] at hx ⊢
    rw [show k+(d+1)+1 = (k+d+1)+1 by omega,r06_Bytes.l0,if_pos (by omega),if_pos (by omega),w64 (by omega) (by omega),w64 (by omega) (by omega),show ((x:Int)+((rdOf ByteArray.empty T (i:Int)).size:Int)) = ((x+(rdOf ByteArray.empty T (i:Int)).size:Nat):Int) by omega,show ((i:Int)+1) = ((i+1:Nat):Int) by omega,ih (i+1) _ (by omega) (by omega),Nat.add_assoc]
theorem fold_same:∀ (ts:List ByteArray) (m m':List ByteArray) (s:Nat),(∀ t,t ∈ m'↔t ∈ m)→s = (m.map ByteArray.size).sum→(ts.foldl tStep (m',s)).2 = ((ts.foldl rStep m).map ByteArray.size).sum
  | [],m,m',s,_,h => h
  | t :: ts,m,m',s,hm,hs => by
    simp only [List.foldl_cons]
    by_cases h:t ∈ m
    · rw [tStep_old ((hm t).2 h),rStep,if_pos h]
      exact fold_same ts m m' s hm hs
    · rw [tStep_new (fun k => h ((hm t).1 k)),rStep,if_neg h]
      refine fold_same ts _ _ _ (fun u => ?_) ?_
      · simp [hm u,or_comm]
      · simp [hs]
theorem rmeas_ev {l0:List (S53)} (hS:Small l0) (hF:Fits l0) (a1:Int):Ev (fun k => r12_Measure.f k l0 a1) (0,(l0.length:Int),(restK l0 0:Int),measD l0 a1,(textN l0:Int)):=by
  have hn:=small_len hS
  have hE:=small_sum hS
  have hl:=hS.len
  obtain ⟨K,h1⟩:=texts_l0 hF hS.len a1 l0.length 0 [] (by omega) (by simp)
  obtain ⟨hb1,hb2⟩:=texts_bound l0 hF
  have hlen:=fold_len (textsOf l0) []
  have hN:=fold_same (textsOf l0) [] [] 0 (fun _ => Iff.rfl) rfl
  have hle:=textN_le hF
  have hN2:((List.foldl rStep [] (textsOf l0)).map ByteArray.size).sum = textN l0:=hN.symm
  rw [List.length_nil] at hlen
  have h2:∀ k,10000≤k→r06_Bytes.f k ((textsOf l0).foldl rStep []) = some (textN l0:Int):=by
    intro k hk
    have:=bytes_l0 ((textsOf l0).foldl rStep []) (by omega) (k - ((textsOf l0).foldl rStep []).length - 1) ((textsOf l0).foldl rStep []).length 0 0 (by omega) (by rw [List.drop_zero,hN2];omega)
    rw [show k - ((textsOf l0).foldl rStep []).length - 1+((textsOf l0).foldl rStep []).length+1 = k by omega,List.drop_zero,hN2,Nat.zero_add] at this
    exact this
  obtain ⟨K3,h3⟩:=ev_of (f:=fun k => r09_Check.f k l0 a1) (rcheck l0 a1 hn hE)
  simp only at h3
  have hedge:∀ k,l0.length+1≤k→r09_Edges.f k l0 a1 = some (restK l0 0:Int):=by
    intro k hk
    have:=redges hS a1 (k - l0.length - 1)
    rwa [show k - l0.length - 1+l0.length+1 = k by omega] at this
  by_cases hc:(checkP l0 a1).1 = 0
  · obtain ⟨h5,h6,hb,hA,hl⟩:=checkP_zero hE hc
    have hW:=GT.wf_of_firstBad hb
    have hGl:(GT.toG (kidsI l0)).length = l0.length:=by rw [GT.length_toG,kids_len]
    obtain ⟨K9,out,ho,_⟩:=order_tells l0 a1 hb hn hE
    have hfull:=ho.of_acyc hW hA
    have hlen:=GT.length_of_all ho.nodup ho.lt hfull
    have hR:=ho.acyc (by omega)
    have hRl:∀ x,x < l0.length→GT.find out x < l0.length:=fun x hx => by have:=GT.find_lt (hfull x (by omega));omega
    obtain ⟨K4,deep,g1,g2,g3⟩:=rdepth hb hn hE hR hRl a1
    obtain ⟨K5,g4⟩:=ev_of (f:=fun k => r09_Depths.f k l0 a1) ⟨K4,g3⟩
    simp only at g4
    have hrd:rd deep a1 = (H l0 a1.toNat:Int):=g2 _ (by omega)
    refine ⟨K+K3+K5+10000+l0.length+1,fun k hk => ?_⟩
    show r12_Measure.f k l0 a1 = _
    rw [r12_Measure.f,hedge k (by omega),Option.bind_some,r12_Texts.f,show r12_Texts.l0 k [] 0 l0 a1 = _ from h1 k (by omega),Option.bind_some,List.drop_zero,h2 k (by omega),Option.bind_some,r09_Right.f,h3 k (by omega),Option.bind_some,hc,Option.bind_some,if_pos (by rfl),g4 k (by omega),Option.bind_some,if_pos h5,if_pos (by omega),hrd,measD,if_pos hc]
  · refine ⟨K+K3+10000+l0.length+1,fun k hk => ?_⟩
    show r12_Measure.f k l0 a1 = _
    rw [r12_Measure.f,hedge k (by omega),Option.bind_some,r12_Texts.f,show r12_Texts.l0 k [] 0 l0 a1 = _ from h1 k (by omega),Option.bind_some,List.drop_zero,h2 k (by omega),Option.bind_some,r09_Right.f,h3 k (by omega),Option.bind_some,Option.bind_some,if_neg (by simpa using hc),measD,if_neg hc]
def validP (l0:List (S53)) (a1 b0 b1 b2 b3 b4:Int):Int × Int :=
  if rB b0 b1 b2 b3 b4 = true then if (typedFrom l0 0).1 = 0 then if (checkP l0 a1).1 = 0 then if LimW.wB 0 (l0.length:Int) (restK l0 0:Int) (measD l0 a1) (textN l0:Int) b0 b1 b2 b3 b4 = true then (0,0) else (19,-1) else ((checkP l0 a1).1,(checkP l0 a1).2) else ((typedFrom l0 0).1,(typedFrom l0 0).2) else (1,-1)
theorem valid_ev {l0:List (S53)} (hS:Small l0) (hF:Fits l0) (a1:Int):∃ K,∀ k,K≤k→∀ b0 b1 b2 b3 b4,limit_Valid.f k l0 a1 b0 b1 b2 b3 b4 = some (validP l0 a1 b0 b1 b2 b3 b4):=by
  obtain ⟨K1,h1⟩:=typed_ev hF hS.len a1
  obtain ⟨K2,h2⟩:=ev_of (f:=fun k => graph_Check.f k l0 a1) (gcheck l0 a1 (small_len hS) (small_sum hS))
  simp only at h2
  obtain ⟨K3,h3⟩:=meas_ev hS hF a1
  refine ⟨K1+K2+K3,fun k hk b0 b1 b2 b3 b4 => ?_⟩
  have e1:=h1 k (by omega)
  have e2:=h2 k (by omega)
  have e3:=h3 k (by omega)
  simp only at e1 e2 e3
  unfold validP
  rw [limit_Valid.f,right_code,Option.bind_some,e1,Option.bind_some,e2,Option.bind_some,e3,Option.bind_some]
  simp only
  rw [within_code,Option.bind_some]
  repeat' split
  all_goals rfl
theorem rvalid_ev {l0:List (S53)} (hS:Small l0) (hF:Fits l0) (a1:Int):∃ K,∀ k,K≤k→∀ b0 b1 b2 b3 b4,r12_Valid.f k l0 a1 b0 b1 b2 b3 b4 = some (validP l0 a1 b0 b1 b2 b3 b4):=by
  obtain ⟨K1,h1⟩:=rtyped_ev hF hS.len a1
  obtain ⟨K2,h2⟩:=ev_of (f:=fun k => r09_Check.f k l0 a1) (rcheck l0 a1 (small_len hS) (small_sum hS))
  simp only at h2
  obtain ⟨K3,h3⟩:=rmeas_ev hS hF a1
  refine ⟨K1+K2+K3+6,fun k hk b0 b1 b2 b3 b4 => ?_⟩
  have e1:=h1 k (by omega)
  have e2:=h2 k (by omega)
  have e3:=h3 k (by omega)
  simp only at e1 e2 e3
  unfold validP
  rw [r12_Valid.f,rright k (by omega),Option.bind_some,e1,Option.bind_some,e2,Option.bind_some,e3,Option.bind_some]
  simp only
  rw [rwithin,Option.bind_some]
  repeat' split
  all_goals rfl
end Go.Proofs.YtcphcaiiofeflaaDoor.GL
