/- Texts of the claim, one behind the other. -/
import Derived.Test.YtoigkneoaemcfaaDoorNoM8
import Derived.Test.YtoigkneoaemcfaaDoorNoM6
namespace Go.Proofs.YtoigkneoaemcfaaDoor.Tab
open Go.RowKit Go.Lib Go.Proofs.YtoigkneoaemcfaaDoorW.PrintWords Go.Proofs.YtoigkneoaemcfaaDoorW.PrintLast Go.Proofs.YtoigkneoaemcfaaDoorW.PrintMore Go.Proofs.YtoigkneoaemcfaaDoor.B Go.Proofs.YtoigkneoaemcfaaDoor.Bd
set_option linter.unusedVariables false
set_option linter.unusedSimpArgs false
def recL (l:List ByteArray):List Nat:=l.flatMap fun s => VM.enc s.size ++ Cur.bl s
theorem recL_cons (s:ByteArray) (m:List ByteArray):recL (s :: m) = VM.enc s.size ++ (Cur.bl s ++ recL m):=by simp [recL]
theorem fold_bl:∀ (l:List ByteArray) (o:ByteArray),Cur.bl (l.foldl (fun o s => o ++ (Cur.put s.size ++ s)) o) = Cur.bl o ++ recL l
  | [],o => by simp [recL]
  | s :: l,o => by
    rw [List.foldl_cons,fold_bl l,Cur.append_bl,Cur.append_bl,Cur.bl_put,recL_cons]
    simp
theorem tabB_bl (l:List ByteArray):Cur.bl (tabB l) = VM.enc l.length ++ recL l:=by
  unfold tabB
  rw [fold_bl,Cur.bl_put]
theorem getE_ok {bad:ByteArray→Bool} {b:ByteArray} {texts bytes:Int} {c:Cur.Cur} {l:List ByteArray} (h:getC bad b texts bytes = (c,l)) (he:c.e = 0) (hl:¬ c.left > 0):getE bad b texts bytes = (0,l):=by
  unfold getE
  rw [h]
  simp only
  rw [if_neg hl,he]
section
variable (bad:ByteArray→Bool) (most:Int) (b:ByteArray)
theorem get_run:∀ (suf pre:List ByteArray) (h:List Nat),Cur.bl b = h ++ recL suf→(∀ s ∈ suf,bad s = false∧s.size≤16777216)→(pre ++ suf).Nodup→(total pre:Int)≤most →
    ((total (pre ++ suf):Int)≤most→getL bad most suf.length ⟨b,h.length,0⟩ pre = (⟨b,b.size,0⟩,pre ++ suf))∧(most < (total (pre ++ suf):Int)→(getL bad most suf.length ⟨b,h.length,0⟩ pre).1.e = 19)
  | [],pre,h,hb,_,_,ht => by
    rw [List.append_nil]
    refine ⟨fun _ => ?_,fun h2 => by omega⟩
    have:h.length = b.size:=by rw [← Cur.bl_length,hb];simp [recL]
    rw [List.length_nil,getL,this]
  | s :: suf,pre,h,hb,hg,hnd,ht => by
    obtain ⟨g1,g2⟩:=hg s List.mem_cons_self
    rw [recL_cons] at hb
    have hgt:=Cur.gt_put b h.length s.size h (Cur.bl s ++ recL suf) (by omega) hb rfl
    have hsz:h.length+(VM.enc s.size).length+s.size≤b.size:=by
      rw [← Cur.bl_length b,hb]
      simp [Cur.bl_length]
      omega
    have htt:total (pre ++ s :: suf) = total pre+s.size+total suf:=by rw [total_append,total_cons];omega
    have hns:s ∉ pre:=fun hm => (List.nodup_append.1 hnd).2.2 s hm s List.mem_cons_self rfl
    rw [List.length_cons,getL,if_neg (by simp)]
    by_cases hf:(s.size:Int)≤most - total pre
    · have ht2:=Cur.text_of (c:=⟨b,h.length,0⟩) (most:=most - total pre) rfl hgt (by omega) hf g2 hsz
      have hex:b.extract (h.length+(VM.enc s.size).length) (h.length+(VM.enc s.size).length+s.size) = s:=by
        apply Cur.bl_inj
        rw [Cur.extract_bl,hb]
        have e:h ++ (VM.enc s.size ++ (Cur.bl s ++ recL suf)) = (h ++ VM.enc s.size ++ Cur.bl s) ++ recL suf:=by simp [List.append_assoc]
        rw [e,List.take_left' (by simp [Cur.bl_length];omega),List.drop_left' (by simp)]
      simp only at ht2
      rw [hex] at ht2
      have hst:getStep bad most ⟨b,h.length,0⟩ pre = (⟨b,h.length+(VM.enc s.size).length+s.size,0⟩,pre ++ [s]):=by
        unfold getStep
        rw [ht2]
        simp only
        rw [if_neg (by simp),if_neg (by rw [g1];simp),if_neg hns]
      rw [hst]
      simp only
      have ih:=get_run suf (pre ++ [s]) (h ++ VM.enc s.size ++ Cur.bl s) (by rw [hb];simp [List.append_assoc]) (fun x hx => hg x (List.mem_cons_of_mem _ hx)) (by rw [List.append_assoc];exact hnd) (by rw [total_snoc];omega)
      have e1:(h ++ VM.enc s.size ++ Cur.bl s).length = h.length+(VM.enc s.size).length+s.size:=by simp [Cur.bl_length];omega
      have e2:pre ++ [s] ++ suf = pre ++ s :: suf:=by simp
      rw [e1,e2] at ih
      exact ih
    · have ht2:=Cur.text_big (c:=⟨b,h.length,0⟩) (most:=most - total pre) rfl hgt (by omega) (by omega)
      have hst:getStep bad most ⟨b,h.length,0⟩ pre = (⟨b,h.length,19⟩,pre):=by
        unfold getStep
        rw [ht2]
        simp only
        rw [if_pos (by simp)]
      rw [hst,getL_err _ _ _ _ _ (by simp)]
      exact ⟨fun h2 => by omega,fun _ => rfl⟩
end
section
variable (bad:ByteArray→Bool) (l:List ByteArray) (texts bytes:Int) (hg:∀ s ∈ l,bad s = false∧s.size≤16777216) (hnd:l.Nodup) (hl:l.length≤16777216)
include hl
theorem tab_uint (hn:(l.length:Int)≤texts):(Cur.new (tabB l)).uint (max texts 0) = ((l.length:Int),⟨tabB l,(VM.enc l.length).length,0⟩):=by
  have:=Cur.uint_of (c:=Cur.new (tabB l)) (most:=max texts 0) rfl (Cur.gt_put (tabB l) 0 l.length [] (recL l) (by omega) (by rw [tabB_bl];rfl) rfl) (by omega) hl
  rw [this]
  simp [Cur.new]
include hg hnd
theorem tab_back (hn:(l.length:Int)≤texts) (hm:(total l:Int)≤bytes):getE bad (tabB l) texts bytes = (0,l):=by
  have hc:getC bad (tabB l) texts bytes = (⟨tabB l,(tabB l).size,0⟩,l):=by
    unfold getC
    rw [tab_uint l texts hl hn]
    simp only [Int.toNat_natCast]
    exact (get_run bad (max bytes 0) (tabB l) l [] (VM.enc l.length) (tabB_bl l) hg hnd (by simp [total];omega)).1 (by rw [List.nil_append];omega)
  exact getE_ok hc rfl (by unfold Cur.Cur.left;simp)
theorem tab_lessB (hn:(l.length:Int)≤texts) (hm:max bytes 0 < (total l:Int)):(getE bad (tabB l) texts bytes).1 = 19:=by
  have hc:(getC bad (tabB l) texts bytes).1.e = 19:=by
    unfold getC
    rw [tab_uint l texts hl hn]
    simp only [Int.toNat_natCast]
    exact (get_run bad (max bytes 0) (tabB l) l [] (VM.enc l.length) (tabB_bl l) hg hnd (by simp [total];omega)).2 (by rw [List.nil_append];omega)
  unfold getE
  simp only
  split
  · rw [Cur.fail_e (by rw [hc];simp),hc]
  · exact hc
end
section
variable (bad:ByteArray→Bool) (most:Int)
theorem get_inv:∀ (n:Nat) (c:Cur.Cur) (l:List ByteArray),c.at'≤c.b.size→(getL bad most n c l).1.e = 0 →
    c.e = 0∧∃ (suf:List ByteArray) (q:Nat),getL bad most n c l = (⟨c.b,q,0⟩,l ++ suf)∧suf.length = n∧(l.Nodup→(l ++ suf).Nodup)∧c.at'≤q∧q≤c.b.size∧(Cur.bl c.b).take q = (Cur.bl c.b).take c.at' ++ recL suf∧(∀ s ∈ suf,bad s = false∧s.size≤16777216)∧(total (l ++ suf):Int)≤max most (total l)
  | 0,c,l,hok,h => by
    rw [getL] at h ⊢
    have h:c.e = 0:=h
    refine ⟨h,[],c.at',?_,rfl,by simp,Nat.le_refl _,hok,by simp [recL],by simp,by rw [List.append_nil];omega⟩
    cases c
    simp only at h
    subst h
    simp
  | n+1,c,l,hok,h => by
    rw [getL] at h ⊢
    by_cases he:c.e≠0
    · rw [if_pos he] at h;exact absurd h he
    rw [if_neg he] at h ⊢
    refine ⟨by simpa using he,?_⟩
    by_cases ht:(c.text (most - total l)).2.e = 0
    · obtain ⟨_,s,q,t1,t2,t3,t4,t5,t6⟩:=Cur.text_inv ht
      by_cases hb:bad s = true
      · have hst:getStep bad most c l = (Cur.Cur.fail ⟨c.b,q,0⟩ 11,l):=by
          unfold getStep
          rw [t1]
          simp only
          rw [if_neg (by simp),if_pos hb]
        rw [hst,getL_err _ _ _ _ _ (by simp [Cur.Cur.fail])] at h
        exact absurd h (by simp [Cur.Cur.fail])
      by_cases hm:s ∈ l
      · have hst:getStep bad most c l = (Cur.Cur.fail ⟨c.b,q,0⟩ 17,l):=by
          unfold getStep
          rw [t1]
          simp only
          rw [if_neg (by simp),if_neg hb,if_pos hm]
        rw [hst,getL_err _ _ _ _ _ (by simp [Cur.Cur.fail])] at h
        exact absurd h (by simp [Cur.Cur.fail])
      have hst:getStep bad most c l = (⟨c.b,q,0⟩,l ++ [s]):=by
        unfold getStep
        rw [t1]
        simp only
        rw [if_neg (by simp),if_neg hb,if_neg hm]
      rw [hst] at h ⊢
      simp only at h ⊢
      obtain ⟨_,suf,q2,i1,i2,i3,i4,i5,i6,i7,i8⟩:=get_inv n ⟨c.b,q,0⟩ (l ++ [s]) t3 h
      simp only at i1 i4 i5 i6
      refine ⟨s :: suf,q2,by rw [i1];simp,by rw [List.length_cons,i2],fun hl => ?_,by omega,i5,?_,?_,?_⟩
      · have:=i3 (List.nodup_append.2 ⟨hl,by simp,fun a ha b hb => by rw [List.mem_singleton] at hb;subst hb;rintro rfl;exact hm ha⟩)
        simpa using this
      · rw [i6,t4,recL_cons]
        simp
      · intro x hx
        rcases List.mem_cons.1 hx with rfl | hx
        · exact ⟨by simpa using hb,t6⟩
        · exact i7 x hx
      · have e:l ++ s :: suf = l ++ [s] ++ suf:=by simp
        rw [e]
        rw [total_snoc] at i8
        omega
    · have hst:getStep bad most c l = ((c.text (most - total l)).2,l):=by
        unfold getStep
        rw [if_pos ht]
      rw [hst,getL_err _ _ _ _ _ ht] at h
      exact absurd h ht
theorem getE_one {b:ByteArray} {texts bytes:Int} (h:(getE bad b texts bytes).1 = 0):∃ l,getE bad b texts bytes = (0,l)∧tabB l = b∧l.Nodup∧(∀ s ∈ l,bad s = false∧s.size≤16777216)∧(l.length:Int)≤max texts 0∧l.length≤16777216∧(total l:Int)≤max bytes 0:=by
  have hce:(getC bad b texts bytes).1.e = 0∧¬ (getC bad b texts bytes).1.left > 0:=by
    unfold getE at h
    simp only at h
    split at h
    · unfold Cur.Cur.fail at h
      split at h
      · exact absurd h (by simp)
      · rename_i h1 h2;exact absurd h h2
    · rename_i h1;exact ⟨h,h1⟩
  obtain ⟨hce,hleft⟩:=hce
  have hE:getE bad b texts bytes = (0,(getC bad b texts bytes).2):=by
    unfold getE
    rw [if_neg hleft,hce]
  have hce2:=hce
  unfold getC at hce2
  have hok:((Cur.new b).uint (max texts 0)).2.at'≤((Cur.new b).uint (max texts 0)).2.b.size:=by
    have hg:=Cur.gt_cases b 0
    unfold Cur.Cur.uint
    repeat' split
    all_goals (simp only [Cur.new])
    all_goals try exact Nat.zero_le _
    rcases hg with ⟨v,n,e,h3,h4,_⟩ | e | e
    all_goals (rw [e];simp only;omega)
  obtain ⟨ue,suf,q,i1,i2,i3,i4,i5,i6,i7,i8⟩:=get_inv bad (max bytes 0) _ _ [] hok hce2
  obtain ⟨_,v,n,u1,u2,u3,u4,u5,u6,u7⟩:=Cur.uint_inv ue
  rw [u1] at i1 i2 i4 i5 i6
  simp only [Cur.new,Int.toNat_natCast,List.nil_append,Nat.zero_add,List.drop_zero] at i1 i2 i4 i5 i6 u2 u3
  have hC:getC bad b texts bytes = (⟨b,q,0⟩,suf):=by
    unfold getC
    rw [u1]
    simp only [Cur.new,Int.toNat_natCast,Nat.zero_add]
    exact i1
  rw [hC] at hE hleft
  have hq:q = b.size:=by simp only [Cur.Cur.left] at hleft;omega
  refine ⟨suf,hE,?_,?_,i7,by omega,by omega,?_⟩
  · apply Cur.bl_inj
    rw [tabB_bl,i2,u2,← i6,hq,List.take_of_length_le (by rw [Cur.bl_length];omega)]
  · have:=i3 List.nodup_nil
    simpa using this
  · have:total ([]:List ByteArray) = 0:=rfl
    rw [this] at i8
    simp only [List.nil_append] at i8
    omega
end
end Go.Proofs.YtoigkneoaemcfaaDoor.Tab
namespace Go.Proofs.YtoigkneoaemcfaaDoor.Tab
open Go.RowKit Go.Lib Go.Proofs.YtoigkneoaemcfaaDoorW.PrintWords Go.Proofs.YtoigkneoaemcfaaDoorW.PrintLast Go.Proofs.YtoigkneoaemcfaaDoorW.PrintMore Go.Proofs.YtoigkneoaemcfaaDoor.B Go.Proofs.YtoigkneoaemcfaaDoor.Bd Go.Proofs.YtoigkneoaemcfaaDoor.GN
def badS (s:ByteArray):Bool:=decide (U.first s (s.size+1) 0 ≥ 0)
theorem bad_calls (s:ByteArray) (w:World) (hs:s.size≤1000000) (ht:∀ w',Below w.heap.size w w'→Lib.Utf8Tabs 0 1 w') :
    Calls Tryd.prog 66 #[.string s] w fun e w' => ∃ r:Int,e = .returned (.int .i64 r)∧decide (r ≥ 0) = badS s∧Below w.heap.size w w':=by
  refine (utf_First.calls s (U.first s (s.size+1) 0) w ht (by unfold utf_First.f;rw [if_pos (by omega)])).mono ?_
  rintro e w' ⟨rfl,hb⟩
  exact ⟨_,rfl,rfl,hb⟩
end Go.Proofs.YtoigkneoaemcfaaDoor.Tab
