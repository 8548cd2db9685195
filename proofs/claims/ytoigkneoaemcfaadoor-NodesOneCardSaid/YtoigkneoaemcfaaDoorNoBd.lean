import Derived.Test.YtoigkneoaemcfaaDoorNoM0
import Derived.Test.YtoigkneoaemcfaaDoorProg
import Derived.Lib.Builder
import Derived.Lib.AppendStr
import Derived.Lib.UnsafeStr
import Derived.Lib.FrozenHead
import Derived.Lib.Hide
import Derived.RegionTactic
import Derived.LoopTactic
import Derived.WalkKit
namespace Go.Proofs.YtoigkneoaemcfaaDoor.Bd
open Go.RowKit Go.Proofs.YtoigkneoaemcfaaDoorW.PrintWords Go.Proofs.YtoigkneoaemcfaaDoorW.PrintLast Go.Proofs.YtoigkneoaemcfaaDoorW.PrintMore Go.Proofs.YtoigkneoaemcfaaDoor.B
set_option linter.unusedVariables false
set_option linter.unusedSimpArgs false
def Fresh (n:Nat) (F F':Nat→Prop):Prop:=∀ k,F' k→F k ∨ n≤k
theorem Fresh.refl (n:Nat) (F:Nat→Prop):Fresh n F F:=fun _ h => .inl h
theorem Fresh.trans {n m:Nat} {F F1 F2:Nat→Prop} (h:Fresh n F F1) (k:Fresh m F1 F2) (hn:n≤m):Fresh n F F2:=fun x hx => by
  rcases k x hx with h1 | h1
  · exact h x h1
  · exact .inr (Nat.le_trans hn h1)
theorem Fresh.apart {n:Nat} {F F' G:Nat→Prop} (h:Fresh n F F') (hG:∀ k,G k→k < n) (ha:∀ k,F k→¬ G k):∀ k,F' k→¬ G k:=fun k hk hg => by
  rcases h k hk with h1 | h1
  · exact ha k h1 hg
  · have:=hG k hg;omega
theorem Mv.steps {F F1:Nat→Prop} {w w1 w2:World} (h:Mv F w w1) (k:Mv F1 w1 w2) (hf:Fresh w.heap.size F F1):Mv F w w2:=h.trans k hf
theorem row_lt {w:World} {base:Nat} {e:TypeId} {v:Value} {n size:Nat} {xs:List Value} (h:w.ownsRow base e size v n xs) {k:Nat} (hk:v.ownBlock = some k):k < w.heap.size:=(h.lt k hk).2
theorem row_mv {S:Nat→Prop} {w w':World} {base:Nat} {e:TypeId} {v:Value} {n size:Nat} {xs:List Value} (h:w.ownsRow base e size v n xs) (m:Mv S w w') (hd:∀ k,v.ownBlock = some k→¬ S k):w'.ownsRow base e size v n xs:=by
  obtain ⟨h1,h2⟩:=h
  refine ⟨h1,h2.imp id ?_⟩
  rintro ⟨g,cap,cur,rfl,hb,hg,rest⟩
  exact ⟨g,cap,cur,rfl,hb,m.keep hg (hd g rfl),rest⟩
theorem row_slice {w:World} {base:Nat} {e:TypeId} {v:Value} {n size:Nat} {xs:List Value} (h:w.ownsRow base e size v n xs):∃ a c,v = .slice a n c:=by
  rcases h.2 with ⟨hv,h0⟩ | ⟨g,cap,cur,hv,_⟩
  · exact ⟨none,0,by rw [hv,h0]⟩
  · exact ⟨_,_,hv⟩
theorem mv_grown {w w':World} {row:Option Nat} (h:w.grownBy w' row):Mv (fun k => row = some k) w w':=⟨h.os,h.tape,h.output,h.size,fun k hk hn => h.block k hk (fun e => hn e.symm)⟩
theorem append_at {P:Program} (w:World) (t u ty e:TypeId) (i:TypeInfo) (ht:P.underlying t = some (.slice e)) (hu:P.underlying u = some .string) (hi:P.info? e = some i) (hz:i.zero = some (.int .u8 0))
    (hsize:i.size = 1) (hby:i.bytes = 1) (v:Value) (n:Nat) (xs:List Value) (hown:w.ownsRow 0 e 1 v n xs) (s:ByteArray) (hn:n+s.size≤140737488355328) :
    ∃ v' w',(Builtin.append_ #[t,u] ty #[v,.string s]).run P w = .ok v' w'∧w'.ownsRow 0 e 1 v' (n+s.size) (xs ++ Lib.strCells s)∧w.grownBy w' v.ownBlock∧(v'.ownBlock = v.ownBlock ∨ v'.ownBlock = some w.heap.size):=by
  obtain ⟨v',w',hr,h1,h2,h3⟩:=Lib.run_append_own_string (P:=P) w 0 t u ty e i ht hu hi hz hsize hby v n xs hown s (by unfold maxLen;omega) hn (Nat.zero_le _)
  refine ⟨v',w',hr,h1,h2,?_⟩
  have hxl:xs.length = n:=by simpa using hown.1
  rcases hown.2 with ⟨rfl,rfl⟩ | ⟨g,cap,cur,rfl,hbg,hg,hnc,hcm,hcs,htake⟩
  · by_cases h0:s.size = 0
    · rw [h3.2 ⟨rfl,h0⟩];exact .inl rfl
    · have:=run_append_nil_string (P:=P) (w:=w) t u ty e i (.int .u8 0) ht hu hi hz s (by omega) (by omega) (by rw [hby];omega)
      rw [hr] at this
      injection this with e1 e2
      rw [e1];exact .inr rfl
  · by_cases hroom:n+s.size≤cap
    · have:=Lib.run_append_room_string (P:=P) w t u ty e i ht hu hi hsize g n cap cur hg s hroom (by omega)
      rw [hr] at this
      injection this with e1 e2
      rw [e1];exact .inl rfl
    · have:=Lib.run_append_grow_string (P:=P) w t u ty e i (.int .u8 0) ht hu hi hz ⟨g,0,none⟩ n cap xs (by rw [hsize];simpa using hxl) (hown.cells (g:=g) rfl) s (by omega) (by omega) (by rw [hby];exact growslice_fits (by omega) (by omega))
      rw [hr] at this
      injection this with e1 e2
      rw [e1];exact .inr rfl
theorem wpList_append_str {P:Program} (w:World) {ops:Array Oper} {rest:List Oper} {o:Oper} {a:Act} {Q:Exit→Act→World→Prop} (hgd:o.guard = none) (sl x:Operand) (t u:TypeId)
    (ho:o.op = .call { callee:=.builtin .append,args:=#[sl,x],argTypes:=#[t,u] }) (e:TypeId) (i:TypeInfo) (ht:P.underlying t = some (.slice e)) (hu:P.underlying u = some .string) (hi:P.info? e = some i) (hz:i.zero = some (.int .u8 0))
    (hsize:i.size = 1) (hby:i.bytes = 1) (v:Value) (n:Nat) (xs:List Value) (hs:a.eval sl = v) (hown:w.ownsRow 0 e 1 v n xs) (s:ByteArray) (hx:a.eval x = .string s) (hn:n+s.size≤140737488355328)
    (h:∀ v' w',w'.ownsRow 0 e 1 v' (n+s.size) (xs ++ Lib.strCells s)→w.grownBy w' v.ownBlock→(v'.ownBlock = v.ownBlock ∨ v'.ownBlock = some w.heap.size)→wpList P ops Q rest (a.put o.dst v') w'):wpList P ops Q (o :: rest) a w:=by
  refine wpList_plain hgd fun K hK => ?_
  obtain ⟨v',w',hr,h2,h3,h4⟩:=append_at (P:=P) w t u o.type e i ht hu hi hz hsize hby v n xs hown s hn
  unfold Oper.wp execOp
  simp only [ho,resolve,invoke,builtin,Sem.run_bind,Sem.run_pure,Result.andThen_ok,List.map_toArray,List.map_cons,List.map_nil,hs,hx,hr]
  exact hK _ _ (h v' w' h2 h3 h4)
def IsBd (w:World) (F:Nat→Prop) (b:Nat) (s:ByteArray):Prop :=
  ∃ p v,w.heap[b]? = some (.cells #[p,v] 82 (0,0))∧(p = .pointer none ∨ p = .pointer (some ⟨b,0,none⟩))∧w.ownsRow 0 5 1 v s.size (Lib.strCells s)∧v.ownBlock≠some b∧∀ k,F k↔(k = b ∨ v.ownBlock = some k)
section
variable {w w':World} {F:Nat→Prop} {b:Nat} {s:ByteArray}
theorem IsBd.lt (h:IsBd w F b s):∀ k,F k→k < w.heap.size:=by
  obtain ⟨p,v,hb,_,ho,_,hF⟩:=h
  intro k hk
  rcases (hF k).1 hk with rfl | h1
  · exact blk_lt hb
  · exact row_lt ho h1
theorem IsBd.mv {S:Nat→Prop} (h:IsBd w F b s) (m:Mv S w w') (hd:∀ k,F k→¬ S k):IsBd w' F b s:=by
  obtain ⟨p,v,hb,hp,ho,hn,hF⟩:=h
  exact ⟨p,v,m.keep hb (hd b ((hF b).2 (.inl rfl))),hp,row_mv ho m (fun k hk => hd k ((hF k).2 (.inr hk))),hn,hF⟩
theorem IsBd.below (h:IsBd w F b s) (m:Below w.heap.size w w'):IsBd w' F b s:=h.mv (Mv.of_below (S:=nil) m) (fun _ _ h => h)
theorem IsBd.new (w:World):IsBd (w.alloc (.cells #[.pointer none,.slice none 0 0] 82)) (one w.heap.size) w.heap.size ⟨#[]⟩ :=
  ⟨_,_,heap_alloc_new w _,.inl rfl,World.ownsRow_nil _ _ _ _,by simp [Value.ownBlock],fun k => by simp [one,Value.ownBlock]⟩
end
set_option maxRecDepth 100000 in
theorem check_used (b:Nat) (w:World) (v:Value) (hb:w.heap[b]? = some (.cells #[.pointer (some ⟨b,0,none⟩),v] 82 (0,0))) :
    Calls Tryd.prog 74 #[.pointer (some ⟨b,0,none⟩)] w fun e w' => e = .returned (.tuple #[])∧w' = w:=by
  have c0:w.cell? ⟨b,0,none⟩ = some (.pointer (some ⟨b,0,none⟩)):=(blk_cell hb 0).trans rfl
  obtain ⟨j,hj,_⟩:=Option.map_eq_some_iff.1 (show (Tryd.prog.info? 82).map (·.size) = some 2 from by kernel_rfl)
  clear hb
  go_enter Tryd.func74,Tryd.ntmps74
  go_wp2
  rw [Lib.run_neq_ptr_same w _ Tryd.underlying79 hj]
  go_wp2
  go_end0
  exact ⟨rfl,rfl⟩
set_option maxRecDepth 100000 in
theorem check_fresh (b:Nat) (w:World) (v:Value) (hb:w.heap[b]? = some (.cells #[.pointer none,v] 82 (0,0))) :
    Calls Tryd.prog 74 #[.pointer (some ⟨b,0,none⟩)] w fun e w' => e = .returned (.tuple #[])∧w' = w.setCell ⟨b,0,none⟩ (.pointer (some ⟨b,0,none⟩)):=by
  have c0:w.cell? ⟨b,0,none⟩ = some (.pointer none):=(blk_cell hb 0).trans rfl
  have f0:=blk_frozen hb 0
  have hsh:w.shape? b = some (82,2):=by simp [World.shape?,hb]
  obtain ⟨j,hj,hjs⟩:=Option.map_eq_some_iff.1 (show (Tryd.prog.info? 82).map (·.size) = some 2 from by kernel_rfl)
  clear hb
  go_enter Tryd.func74,Tryd.ntmps74
  go_wp2
  rw [Lib.run_to_unsafe w ⟨b,0,none⟩ Tryd.underlying79 Tryd.underlying157 hj (by rw [hjs];decide) hsh (Nat.zero_lt_succ 1)]
  simp only [Result.andThen]
  rw [Oper.upon_value]
  go_wp2
  rw [run_callFunc_extern Tryd.func98 (by kernel_rfl) (by kernel_rfl) (by kernel_rfl) (e:=Extern.AbiNoEscape.same) (by kernel_rfl)]
  rw [Lib.run_noEscape]
  simp only [Result.andThen]
  rw [Oper.upon_value]
  go_wp2
  rw [Lib.run_from_unsafe w ⟨b,0,none⟩ Tryd.underlying157 Tryd.underlying79 hj hsh (by kernel_rfl)]
  simp only [Result.andThen]
  rw [Oper.upon_value]
  go_wp2
  go_end0
  exact ⟨rfl,rfl⟩
theorem check_calls (b:Nat) (w:World) (p v:Value) (hb:w.heap[b]? = some (.cells #[p,v] 82 (0,0))) (hp:p = .pointer none ∨ p = .pointer (some ⟨b,0,none⟩)) :
    Calls Tryd.prog 74 #[.pointer (some ⟨b,0,none⟩)] w fun e w' => e = .returned (.tuple #[])∧w'.heap[b]? = some (.cells #[.pointer (some ⟨b,0,none⟩),v] 82 (0,0))∧Mv (one b) w w':=by
  rcases hp with rfl | rfl
  · refine (check_fresh b w v hb).mono ?_
    rintro e w' ⟨rfl,rfl⟩
    refine ⟨rfl,?_,(Mv.refl (one b) _).setCell (p:=⟨b,0,none⟩) (.inl rfl) _⟩
    have:=blk_set hb 0 (.pointer (some ⟨b,0,none⟩))
    simpa using this
  · refine (check_used b w v hb).mono ?_
    rintro e w' ⟨rfl,rfl⟩
    exact ⟨rfl,hb,Mv.refl _ _⟩
set_option maxHeartbeats 4000000 in
set_option maxRecDepth 100000 in
theorem write_calls (F:Nat→Prop) (b:Nat) (s x:ByteArray) (w:World) (h:IsBd w F b s) (hlen:s.size+x.size≤140737488355328) :
    Calls Tryd.prog 39 #[.pointer (some ⟨b,0,none⟩),.string x] w fun e w' => e = .returned (.tuple #[.int .i64 x.size,.nilIface])∧∃ F',IsBd w' F' b (s ++ x)∧Mv F w w'∧Fresh w.heap.size F F':=by
  obtain ⟨p,v,hb,hp,ho,hn,hF⟩:=h
  obtain ⟨i0,hi,hz0,hz1,hz2⟩:=info_parts (show (Tryd.prog.info? 5).map (fun i => (i.zero,i.size,i.bytes)) = some (some (.int .u8 0),1,1) from by kernel_rfl)
  go_enter Tryd.func39,Tryd.ntmps39
  go_wp2_with (fail)
  refine (check_calls b _ p v hb hp).mono ?_
  rintro e w1 ⟨rfl,hb1,m1⟩
  have ho1:w1.ownsRow 0 5 1 v s.size (Lib.strCells s):=row_mv ho m1 (fun k hk hk2 => hn (by rw [hk,show k = b from hk2]))
  obtain ⟨ao,cap0,rfl⟩:=row_slice ho
  have c1:w1.cell? ⟨b,1,none⟩ = some (.slice ao s.size cap0):=(blk_cell hb1 1).trans rfl
  have HB1:=Lib.hid hb1
  have HO1:=Lib.hid ho1
  have HN0:=Lib.hid hn
  have HF:=Lib.hid hF
  have HM:=Lib.hid m1
  have hs1:=m1.size
  clear hb1 ho1 hF m1 ho hb hp
  go_wp2_with (at_builtin;refine wpList_append_str _ rfl _ _ 80 9 rfl 5 i0 Tryd.underlying80 Tryd.underlying9 hi hz0 hz1 hz2 (.slice ao s.size cap0) s.size (Lib.strCells s) rfl HO1.out x rfl hlen ?_;intro v' w2 ho2 hg hl;obtain ⟨an,cap1,rfl⟩:=row_slice ho2;have HG:=Lib.hid hg;have HO:=Lib.hid ho2;have HL:=Lib.hid hl;have HB:=Lib.hid ((hg.block b (blk_lt HB1.out) (fun e => HN0.out e.symm)).trans HB1.out);have f1:=blk_frozen HB.out 1;have d1:w2.cell? ⟨b,1,none⟩ = some (.slice ao s.size cap0):=(blk_cell HB.out 1).trans rfl;clear ho2 hg hl)
  have HN:=Lib.hid (Lib.ownBlock_ne HO.out HB.out (by decide))
  have HNo:=HN0
  have HN:=Lib.hid (Lib.ownBlock_ne HO.out HB.out (by decide))
  go_ret2
  refine ⟨rfl,fun k => k = b ∨ (Value.slice an (s.size+x.size) cap1).ownBlock = some k,⟨_,_,?_,.inr rfl,?_,HN.out,fun k => Iff.rfl⟩,?_,?_⟩
  · have:=blk_set HB.out 1 (.slice an (s.size+x.size) cap1)
    simpa using this
  · have hh:(w2.setCell ⟨b,1,none⟩ (.slice an (s.size+x.size) cap1)).ownsRow 0 5 1 (.slice an (s.size+x.size) cap1) (s.size+x.size) (Lib.strCells s ++ Lib.strCells x):=row_mv HO.out ((Mv.refl (one b) _).setCell (p:=⟨b,1,none⟩) (.inl rfl) _) (fun k hk hk2 => HN.out (by rw [hk,show k = b from hk2]))
    have e1:(s ++ x).size = s.size+x.size:=by simp
    have e2:Lib.strCells (s ++ x) = Lib.strCells s ++ Lib.strCells x:=by unfold Lib.strCells;rw [ByteArray.data_append,Array.toList_append,List.map_append]
    rw [e1,e2]
    exact hh
  · have m2:Mv F w w2:=(HM.out.mono (fun k hk => (HF.out k).2 (.inl hk))).step ((mv_grown HG.out).mono (fun k hk => (HF.out k).2 (.inr hk)))
    exact m2.setCell (p:=⟨b,1,none⟩) (.inl ((HF.out b).2 (.inl rfl))) _
  · intro k hk
    rcases hk with rfl | hk
    · exact .inl ((HF.out k).2 (.inl rfl))
    · rcases HL.out with h1 | h1
      · exact .inl ((HF.out k).2 (.inr (h1.symm.trans hk)))
      · rw [h1] at hk
        injection hk with hk
        exact .inr (by omega)
theorem freeze_mv (w:World) (g n:Nat):Mv (one g) w (w.freeze ⟨g,0,none⟩ n):=by
  unfold World.freeze
  split
  · exact Mv.refl _ _
  · refine ⟨rfl,rfl,rfl,by simp,fun k hk hn => ?_⟩
    have hne:¬ g = k:=fun e => hn e.symm
    simp [Array.getElem?_modify,hne]
set_option maxHeartbeats 4000000 in
set_option maxRecDepth 100000 in
theorem string_calls (F:Nat→Prop) (b:Nat) (s:ByteArray) (w:World) (h:IsBd w F b s) (h0:s.size≠0) :
    Calls Tryd.prog 42 #[.pointer (some ⟨b,0,none⟩)] w fun e w' => e = .returned (.string s)∧Mv F w w':=by
  obtain ⟨p,v,hb,hp,ho,hn,hF⟩:=h
  have hl0:s.data.toList≠[]:=fun e => h0 (by have:=congrArg List.length e;simpa using this)
  have hll:s.data.toList.length = s.size:=by simp
  obtain ⟨g,cap,cur,rfl,hbg,hg,hnc,hcm,hcs,htake⟩:∃ g cap cur,v = .slice (some ⟨g,0,none⟩) s.size cap∧0≤g∧w.heap[g]? = some (.cells cur 5 (0,0))∧s.size≤cap∧cap≤maxLen∧cur.size = cap * 1∧cur.toList.take (s.size * 1) = Lib.strCells s:=by
    rcases ho.2 with ⟨_,hz⟩ | ⟨g,cap,cur,hv,r⟩
    · exact absurd hz h0
    · exact ⟨g,cap,cur,hv,r⟩
  have c1:w.drew.cell? ⟨b,1,none⟩ = some (.slice (some ⟨g,0,none⟩) s.size cap):=(blk_cell (show w.drew.heap[b]? = _ from hb) 1).trans rfl
  have hSD:(Builtin.unsafeSliceData_ #[80] 130 #[.slice (some ⟨g,0,none⟩) s.size cap]).run Tryd.prog w.drew = .ok (.pointer (some ⟨g,0,none⟩)) w.drew :=
    Lib.run_unsafeSliceData_row _ _ _ _ _ _ (by omega)
  have hUS:(Builtin.unsafeString_ #[130,3] 9 #[.pointer (some ⟨g,0,none⟩),.int .i64 s.size]).run Tryd.prog w.drew = .ok (.string s) (w.drew.freeze ⟨g,0,none⟩ s.size):=by
    have:=Lib.run_unsafeString_row w.drew 130 3 9 5 Tryd.underlying130 (by kernel_rfl) g cur.size (by have hg':w.drew.heap[g]? = some (.cells cur 5 (0,0)):=hg;simp [World.shape?,hg']) s.data.toList hl0 (by omega) (by unfold maxLen at hcm;omega) (fun j x hx => by
      have:=ho.cells (g:=g) rfl j (.int .u8 x.toNat) (by rw [Lib.strCells_eq];simp only [Lib.byteCells,List.getElem?_map,hx];rfl)
      exact this)
    rw [hll] at this
    exact this
  have hM:=freeze_mv w.drew g s.size
  have HF:=Lib.hid ((hF g).2 (.inr rfl))
  have HM:=Lib.hid hM
  clear hF hM ho htake hcs hg hn hbg hl0 hll h0 hp hb
  go_enter Tryd.func42,Tryd.ntmps42
  go_wp2
  go_region
  all_goals (go_wp2;go_ret;exact ⟨rfl,((Mv.refl F w).drew).step (HM.out.mono (fun k hk => by rw [show k = g from hk];exact HF.out))⟩)
end Go.Proofs.YtoigkneoaemcfaaDoor.Bd
