import Derived.Test.YtoigkneoaemcfaaDoorNoBd
import Derived.Test.YtoigkneoaemcfaaDoorNoMapS
import Derived.Maps.AppendAt
import Derived.Lib.SliceRun
import Derived.WalkKit
namespace Go.Proofs.YtoigkneoaemcfaaDoor.Tab
open Go.RowKit Go.Proofs.YtoigkneoaemcfaaDoorW.PrintWords Go.Proofs.YtoigkneoaemcfaaDoorW.PrintLast Go.Proofs.YtoigkneoaemcfaaDoorW.PrintMore Go.Proofs.YtoigkneoaemcfaaDoor.B Go.Proofs.YtoigkneoaemcfaaDoor.Bd
set_option linter.unusedVariables false
set_option linter.unusedSimpArgs false
def intern (l:List ByteArray) (s:ByteArray):List ByteArray × Nat:=if s ∈ l then (l,l.idxOf s) else (l ++ [s],l.length)
def total (l:List ByteArray):Nat:=(l.map ByteArray.size).sum
theorem total_snoc (l:List ByteArray) (s:ByteArray):total (l ++ [s]) = total l+s.size:=by simp [total]
theorem intern_old {l:List ByteArray} {s:ByteArray} (h:s ∈ l):intern l s = (l,l.idxOf s):=if_pos h
theorem intern_new {l:List ByteArray} {s:ByteArray} (h:¬ s ∈ l):intern l s = (l ++ [s],l.length):=if_neg h
theorem intern_len (l:List ByteArray) (s:ByteArray):(intern l s).1.length≤l.length+1∧l.length≤(intern l s).1.length:=by
  unfold intern;split <;> simp
theorem intern_total (l:List ByteArray) (s:ByteArray):total (intern l s).1≤total l+s.size:=by
  unfold intern;split
  · simp
  · simp only [total_snoc];omega
theorem intern_nodup {l:List ByteArray} (s:ByteArray) (h:l.Nodup):(intern l s).1.Nodup:=by
  unfold intern;split
  · exact h
  · rename_i hs
    exact List.nodup_append.2 ⟨h,by simp,fun a ha b hb => by rw [List.mem_singleton] at hb;subst hb;rintro rfl;exact hs ha⟩
theorem intern_lt (l:List ByteArray) (s:ByteArray):(intern l s).2 < (intern l s).1.length:=by
  unfold intern;split
  · rename_i h;exact List.idxOf_lt_length_iff.2 h
  · simp
theorem intern_get (l:List ByteArray) (s:ByteArray):(intern l s).1.getD (intern l s).2 ⟨#[]⟩ = s:=by
  unfold intern;split
  · rename_i h
    have:=List.idxOf_lt_length_iff.2 h
    simp only
    rw [List.getD_eq_getElem?_getD,List.getElem?_eq_getElem this]
    simp
  · simp
def IsTab (w:World) (F:Nat→Prop) (p:Nat) (l:List ByteArray):Prop :=
  ∃ b v,w.heap[p]? = some (.cells #[v,.map (some b),.int .i64 (total l:Int)] 119 (0,0))∧w.ownsRow 0 9 1 v l.length (l.map Value.string)∧MapS.IsIdx w b l.length l∧∀ k,F k↔(k = p ∨ k = b ∨ v.ownBlock = some k)
section
variable {w w':World} {F:Nat→Prop} {p:Nat} {l:List ByteArray}
theorem map_block {b n:Nat} (h:MapS.IsIdx w b n l):∃ es c,w.heap[b]? = some (.map es c):=by
  obtain ⟨D,⟨es,c,h1,_⟩,_⟩:=h
  exact ⟨es,c,h1⟩
theorem row_ne_map {b n m:Nat} {v:Value} {e:TypeId} {xs:List Value} (h:MapS.IsIdx w b n l) (ho:w.ownsRow 0 e 1 v m xs):v.ownBlock≠some b:=by
  obtain ⟨es,c,hb⟩:=map_block h
  rcases ho.2 with ⟨rfl,_⟩ | ⟨g,cap,cur,rfl,_,hg,_⟩
  · simp [Value.ownBlock]
  · intro e
    simp only [Value.ownBlock,Option.some.injEq] at e
    subst e
    rw [hb] at hg
    cases hg
theorem ne_map {b n:Nat} {cs:Array Value} {T:TypeId} {fz:Nat × Nat} (h:MapS.IsIdx w b n l) (hp:w.heap[p]? = some (.cells cs T fz)):p≠b:=by
  rintro rfl
  obtain ⟨es,c,hb⟩:=map_block h
  rw [hb] at hp
  cases hp
theorem IsTab.lt (h:IsTab w F p l):∀ k,F k→k < w.heap.size:=by
  obtain ⟨b,v,hp,ho,hi,hF⟩:=h
  intro k hk
  rcases (hF k).1 hk with rfl | rfl | h1
  · exact blk_lt hp
  · exact hi.lt
  · exact row_lt ho h1
theorem IsTab.mv {S:Nat→Prop} (h:IsTab w F p l) (m:Mv S w w') (hd:∀ k,F k→¬ S k):IsTab w' F p l:=by
  obtain ⟨b,v,hp,ho,hi,hF⟩:=h
  exact ⟨b,v,m.keep hp (hd p ((hF p).2 (.inl rfl))),row_mv ho m (fun k hk => hd k ((hF k).2 (.inr (.inr hk)))),hi.of_block (m.block b hi.lt (hd b ((hF b).2 (.inr (.inl rfl))))),hF⟩
theorem IsTab.below (h:IsTab w F p l) (m:Below w.heap.size w w'):IsTab w' F p l:=h.mv (Mv.of_below (S:=nil) m) (fun _ _ h => h)
end
set_option maxRecDepth 100000 in
theorem new_calls (w:World):Calls Tryd.prog 38 #[] w fun e w' => ∃ p F,e = .returned (.pointer (some ⟨p,0,none⟩))∧IsTab w' F p []∧(∀ k,F k→w.heap.size≤k)∧Below w.heap.size w w':=by
  have hmm:=@run_makeMap Tryd.prog
  go_enter Tryd.func38,Tryd.ntmps38
  go_wp2
  go_ret
  refine ⟨_,fun k => k = w.heap.size+1 ∨ k = w.heap.size ∨ (Value.slice none 0 0).ownBlock = some k,rfl,⟨w.heap.size,.slice none 0 0,?_,World.ownsRow_nil _ _ _ _,(MapS.idx_made w).of_block ?_,fun k => ?_⟩,?_,((Below.refl _ _).alloc (Nat.le_refl _) _).alloc (by simp) _⟩
  · have:=heap_alloc_new (w.alloc (.map #[] 0)) (.cells #[.slice none 0 0,.map (some w.heap.size),.int .i64 0] 119)
    simpa [total] using this
  · exact Lib.alloc_old _ _ _ (by simp)
  · simp
  · intro k hk
    simp [Value.ownBlock] at hk
    omega
set_option maxRecDepth 100000 in
theorem len_calls (F:Nat→Prop) (p:Nat) (l:List ByteArray) (w:World) (h:IsTab w F p l) :
    Calls Tryd.prog 27 #[.pointer (some ⟨p,0,none⟩)] w fun e w' => e = .returned (.int .i64 (l.length:Int))∧w = w':=by
  obtain ⟨b,v,hp,ho,hi,hF⟩:=h
  obtain ⟨a,c,rfl⟩:∃ a c,v = .slice a l.length c:=by
    rcases ho.2 with ⟨hv,h0⟩ | ⟨g,cap,cur,hv,_⟩
    · exact ⟨none,0,by rw [hv,h0]⟩
    · exact ⟨_,_,hv⟩
  have c0:w.cell? ⟨p,0,none⟩ = some (.slice a l.length c):=(blk_cell hp 0).trans rfl
  clear hp ho hi hF
  go_enter Tryd.func27,Tryd.ntmps27
  go_wp2
  go_ret
  exact ⟨rfl,rfl⟩
def atT (l:List ByteArray) (i:Int):ByteArray × Bool:=if 0≤i∧i < (l.length:Int) then (l.getD i.toNat ⟨#[]⟩,true) else (⟨#[]⟩,false)
set_option maxRecDepth 100000 in
theorem at_calls (F:Nat→Prop) (p:Nat) (l:List ByteArray) (i:Int) (w:World) (h:IsTab w F p l) :
    Calls Tryd.prog 55 #[.pointer (some ⟨p,0,none⟩),.int .i64 i] w fun e w' => e = .returned (.tuple #[.string (atT l i).1,.bool (atT l i).2])∧w = w':=by
  obtain ⟨b,v,hp,ho,hi,hF⟩:=h
  by_cases h0:i < 0
  · have hf:atT l i = (⟨#[]⟩,false):=if_neg (by omega)
    rw [hf]
    have t0:decide (i < 0) = true:=decide_eq_true h0
    clear hp ho hi hF hf
    go_enter Tryd.func55,Tryd.ntmps55
    go_wp2
    go_ret2
    exact ⟨rfl,rfl⟩
  · have t0:decide (i < 0) = false:=decide_eq_false h0
    obtain ⟨a,c,rfl⟩:∃ a c,v = .slice a l.length c:=by
      rcases ho.2 with ⟨hv,h0⟩ | ⟨g,cap,cur,hv,_⟩
      · exact ⟨none,0,by rw [hv,h0]⟩
      · exact ⟨_,_,hv⟩
    have c0:w.cell? ⟨p,0,none⟩ = some (.slice a l.length c):=(blk_cell hp 0).trans rfl
    by_cases h1:(l.length:Int)≤i
    · have hf:atT l i = (⟨#[]⟩,false):=if_neg (by omega)
      rw [hf]
      have t1:decide ((l.length:Int)≤i) = true:=decide_eq_true h1
      clear hp ho hi hF hf
      go_enter Tryd.func55,Tryd.ntmps55
      go_wp2
      go_ret2
      exact ⟨rfl,rfl⟩
    · have t1:decide ((l.length:Int)≤i) = false:=decide_eq_false h1
      have hf:atT l i = (l.getD i.toNat ⟨#[]⟩,true):=if_pos (by omega)
      rw [hf]
      obtain ⟨g,cap,hv,_,_⟩:=ho.form (by omega)
      cases hv
      have c1:w.cell? ⟨g,i.toNat,none⟩ = some (.string (l.getD i.toNat ⟨#[]⟩)):=by
        rw [ho.cellAt i.toNat (by omega),List.getElem?_map,List.getD_eq_getElem?_getD,List.getElem?_eq_getElem (by omega)]
        rfl
      have h0':0≤i:=by omega
      have h1':i < (l.length:Int):=by omega
      clear hp ho hi hF hf
      generalize l.getD i.toNat ⟨#[]⟩ = x at *
      go_enter Tryd.func55,Tryd.ntmps55
      go_wp2
      go_ret2
      exact ⟨rfl,rfl⟩
set_option maxRecDepth 100000 in
theorem has_calls (F:Nat→Prop) (p:Nat) (l:List ByteArray) (s:ByteArray) (w:World) (h:IsTab w F p l) (hs:s.size≤140737488355328) :
    Calls Tryd.prog 67 #[.pointer (some ⟨p,0,none⟩),.string s] w fun e w' => e = .returned (.bool (decide (s ∈ l)))∧w = w':=by
  obtain ⟨b,v,hp,ho,hi,hF⟩:=h
  have c0:w.cell? ⟨p,1,none⟩ = some (.map (some b)):=(blk_cell hp 1).trans rfl
  clear hp ho hF
  go_enter Tryd.func67,Tryd.ntmps67
  go_wp2_with (at_lookup;refine MapS.wpList_idx _ rfl _ _ rfl b _ l hi s (by unfold maxLen;omega) rfl rfl ?_)
  go_ret
  exact ⟨rfl,rfl⟩
set_option maxHeartbeats 4000000 in
set_option maxRecDepth 100000 in
theorem intern_calls (F:Nat→Prop) (p:Nat) (l:List ByteArray) (s:ByteArray) (w:World) (h:IsTab w F p l) (hs:s.size≤1000000000) (hl:l.length≤100000000) (ht:total l≤1000000000000000) :
    Calls Tryd.prog 46 #[.pointer (some ⟨p,0,none⟩),.string s] w fun e w' => e = .returned (.int .i64 ((intern l s).2:Int))∧∃ F',IsTab w' F' p (intern l s).1∧Mv F w w'∧Fresh w.heap.size F F':=by
  have h00:=h
  obtain ⟨b,v,hp,ho,hi,hF⟩:=h
  have hpb:=ne_map hi hp
  have c0:w.cell? ⟨p,0,none⟩ = some v:=(blk_cell hp 0).trans rfl
  have c1:w.cell? ⟨p,1,none⟩ = some (.map (some b)):=(blk_cell hp 1).trans rfl
  have hsm:s.size≤maxLen:=by unfold maxLen;omega
  by_cases hm:s ∈ l
  · have t0:decide (s ∈ l) = true:=decide_eq_true hm
    rw [intern_old hm]
    have he:(MapS.at0 l s:Int) = ((l.idxOf s:Nat):Int):=by unfold MapS.at0;rw [if_pos hm]
    have HE:=Lib.hid he
    have H0:=Lib.hid h00
    have HI:=Lib.hid hi
    clear hp ho hF he h00 c0 hi
    go_enter Tryd.func46,Tryd.ntmps46
    go_wp2_with (at_lookup;refine MapS.wpList_idx _ rfl _ _ rfl b _ l HI.out s hsm rfl rfl ?_;rw [t0])
    go_ret
    exact ⟨by rw [HE.out];rfl,F,H0.out,Mv.refl _ _,Fresh.refl _ _⟩
  · have t0:decide (s ∈ l) = false:=decide_eq_false hm
    rw [intern_new hm]
    obtain ⟨a,c,rfl⟩:∃ a c,v = .slice a l.length c:=by
      rcases ho.2 with ⟨hv,h0⟩ | ⟨g,cap,cur,hv,_⟩
      · exact ⟨none,0,by rw [hv,h0]⟩
      · exact ⟨_,_,hv⟩
    obtain ⟨i0,hi0,hz0,hz1,hz2⟩:=info_parts (show (Tryd.prog.info? 9).map (fun i => (i.zero,i.size,i.bytes)) = some (some (.string ⟨#[]⟩),1,16) from by kernel_rfl)
    have hrb:=row_ne_map hi ho
    have hrp:(Value.slice a l.length c).ownBlock≠some p:=Lib.ownBlock_ne ho hp (by decide)
    have hix:(l.length:Int) = ((l ++ [s]).idxOf s:Int):=by rw [List.idxOf_append,if_neg hm];simp
    have HIX:=Lib.hid hix
    have HM:=Lib.hid hm
    have HP:=Lib.hid hp
    have HO:=Lib.hid ho
    have HI:=Lib.hid hi
    have HF:=Lib.hid hF
    have HRB:=Lib.hid hrb
    have HRP:=Lib.hid hrp
    have HPB:=Lib.hid hpb
    have HT:=Lib.hid ht
    obtain ⟨tt,htt⟩:∃ t:Nat,t = total l:=⟨_,rfl⟩
    have htb:tt≤1000000000000000:=by omega
    rw [← htt] at HP
    have HTT:=Lib.hid htt
    clear hp ho hF hix hi hm hrb hrp hpb ht htt
    clear h00
    have hb0:p < w.heap.size:=blk_lt HP.out
    go_enter Tryd.func46,Tryd.ntmps46
    go_wp2_with (first
      | (at_lookup;refine MapS.wpList_idx _ rfl _ _ rfl b _ l HI.out s hsm rfl rfl ?_;rw [t0])
      | (at_mapUpdate;refine MapS.wpList_put _ rfl _ _ _ rfl b l.length l HI.out s hsm (by unfold maxLen;omega) (l ++ [s]) (.inr ⟨HM.out,rfl⟩) (l.length:Int) HIX.out (by omega) rfl rfl rfl ?_;intro w1 hi1 hg1;have HI1:=Lib.hid hi1;have HG1:=Lib.hid hg1;have HP1:=Lib.hid ((hg1.block p hb0 (fun e => HPB.out (Option.some.inj e))).trans HP.out);have HO1:=Lib.hid (row_mv HO.out (mv_grown hg1) (fun k hk hk2 => HRB.out (hk.trans hk2.symm)));have d0:w1.cell? ⟨p,0,none⟩ = some (.slice a l.length c):=(blk_cell HP1.out 0).trans rfl;have d2:w1.cell? ⟨p,2,none⟩ = some (.int .i64 (tt:Int)):=(blk_cell HP1.out 2).trans rfl;clear hi1 hg1)
      | (at_builtin;refine wpList_append_own_at _ rfl _ _ 37 rfl 0 9 i0 (.string ⟨#[]⟩) 1 16 Tryd.underlying37 hi0 hz0 hz1 hz2 rfl (by decide) (.slice a l.length c) l.length (l.map Value.string) rfl (HO1.out.alloc _) ⟨w1.heap.size,0,none⟩ 1 1 [.string s] rfl rfl (cell_one_new w1 _ _) (fun u hu => by rw [List.mem_singleton] at hu;subst hu;rfl) (by unfold maxLen;omega) (by omega) (Nat.zero_le _) ?_;intro v2 w2 ho2 hg2 _ hl2;obtain ⟨a2,c2,rfl⟩:=row_slice ho2;have HO2:=Lib.hid ho2;have HG2:=Lib.hid hg2;have HL2:=Lib.hid hl2;have HP2:=Lib.hid ((hg2.block p (by have:=blk_lt HP1.out;simp;omega) (fun e => HRP.out e.symm)).trans (blk_alloc HP1.out _));have f20:=blk_frozen HP2.out 0;have f22:=blk_frozen HP2.out 2;have e0:w2.cell? ⟨p,0,none⟩ = some (.slice a l.length c):=(blk_cell HP2.out 0).trans rfl;have e2:w2.cell? ⟨p,2,none⟩ = some (.int .i64 (tt:Int)):=(blk_cell HP2.out 2).trans rfl;clear ho2 hg2 hl2))
    go_ret
    have hM1:Mv F w w1:=(mv_grown HG1.out).mono (fun k hk => (HF.out k).2 (.inr (.inl (Option.some.inj hk).symm)))
    have hM2:Mv F w w2:=(hM1.alloc _).step ((mv_grown HG2.out).mono (fun k hk => (HF.out k).2 (.inr (.inr hk))))
    have hFp:F p:=(HF.out p).2 (.inl rfl)
    have hI2:MapS.IsIdx w2 b (l ++ [s]).length (l ++ [s]):=by
      rw [List.length_append,List.length_singleton]
      refine HI1.out.of_block ?_
      have hlt1:=HI1.out.lt
      rw [HG2.out.block b (by simp;omega) (fun e => HRB.out e.symm)]
      exact Lib.alloc_old _ _ _ hlt1
    have hO2:w2.ownsRow 0 9 1 (.slice a2 (l.length+1) c2) (l ++ [s]).length ((l ++ [s]).map Value.string):=by
      rw [List.length_append,List.length_singleton,List.map_append];exact HO2.out
    have hv2p:(Value.slice a2 (l.length+1) c2).ownBlock≠some p:=Lib.ownBlock_ne hO2 HP2.out (by decide)
    have hpb2:p≠b:=HPB.out
    have hmm:Mv (one p) w2 ((w2.setCell ⟨p,0,none⟩ (.slice a2 (l.length+1) c2)).setCell ⟨p,2,none⟩ (.int .i64 ((tt:Int)+(s.size:Int)))):=((Mv.refl (one p) w2).setCell (p:=⟨p,0,none⟩) (.inl rfl) _).setCell (p:=⟨p,2,none⟩) (.inl rfl) _
    refine ⟨rfl,fun k => k = p ∨ k = b ∨ (Value.slice a2 (l.length+1) c2).ownBlock = some k,⟨b,.slice a2 (l.length+1) c2,?_,row_mv hO2 hmm (fun k hk hk2 => hv2p (by rw [hk,show k = p from hk2])),hI2.of_block (hmm.block b hI2.lt (fun e => hpb2 e.symm)),fun k => Iff.rfl⟩,(hM2.setCell (p:=⟨p,0,none⟩) (.inl hFp) _).setCell (p:=⟨p,2,none⟩) (.inl hFp) _,?_⟩
    · have h1:=blk_set HP2.out 0 (.slice a2 (l.length+1) c2)
      have h2:=blk_set h1 2 (.int .i64 ((tt:Int)+(s.size:Int)))
      have h3:(total (l ++ [s]):Int) = (tt:Int)+(s.size:Int):=by rw [total_snoc,← HTT.out];omega
      rw [h3]
      simpa using h2
    · intro k hk
      rcases hk with rfl | rfl | hk
      · exact .inl hFp
      · exact .inl ((HF.out k).2 (.inr (.inl rfl)))
      · rcases HL2.out with h1 | h1
        · exact .inl ((HF.out k).2 (.inr (.inr (h1.symm.trans hk))))
        · rw [h1] at hk
          injection hk with hk
          have:=HG1.out.size
          simp at hk
          exact .inr (by omega)
end Go.Proofs.YtoigkneoaemcfaaDoor.Tab
