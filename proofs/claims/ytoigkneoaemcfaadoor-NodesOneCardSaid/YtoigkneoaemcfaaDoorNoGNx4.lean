
import Derived.Test.YtoigkneoaemcfaaDoorNoM2
import Derived.Test.YtoigkneoaemcfaaDoorNoGNx3
namespace Go.Proofs.YtoigkneoaemcfaaDoor.GN
open Go.RowKit Go.Proofs.YtoigkneoaemcfaaDoorW.PrintWords Go.Proofs.YtoigkneoaemcfaaDoorW.PrintLast Go.Proofs.YtoigkneoaemcfaaDoorW.PrintMore
attribute [local go_sem] max2_int min2_int max_two min_two max_three min_three max_four min_four
set_option maxHeartbeats 8000000
set_option maxRecDepth 100000
set_option linter.unusedVariables false
set_option linter.unusedSimpArgs false
def slices_Clone_int_int.f (l0:List Int):Option (List Int):=if l0.length < 8796093022208 then some l0 else none
set_option maxHeartbeats 4000000 in
set_option maxRecDepth 100000 in
theorem slices_Clone_int_int.calls (A0:Option Addr) (c0:Nat) (l0:List Int) (r:List Int) (w:World) (hr0:Kd.C (Kd.int .i64) w A0 l0.length l0) (hc0:l0.length≤c0) (h:slices_Clone_int_int.f l0 = some r) :
  Calls Tryd.prog 71 #[.slice A0 l0.length c0] w fun e w' => ∃ v0_:Value,e = .returned (v0_)∧Kd.R (Kd.int .i64) 3 w' w.heap.size (fun _ => True) v0_ r∧Below w.heap.size w w':=by
 unfold slices_Clone_int_int.f at h
 by_cases hlen:l0.length < 8796093022208
 ·rw [if_pos hlen] at h;obtain rfl:=Option.some.inj h;have q22:∀ (w:World) (a:Option Addr) (n c n' c':Nat),(binOp .eql 38 (.slice a n c) (.slice none n' c')).run Tryd.prog w = .ok (.bool a.isNone) w:=fun w a n c n' c' => Lib.run_eql_slice_nil w _ _ a n c n' c' Tryd.underlying38
  clear h;cases A0 with
  | none =>
   obtain rfl:=Go.Proofs.YtoigkneoaemcfaaDoor.Kw.nil_of hr0;clear hr0;go_enter Tryd.func71,Tryd.ntmps71;go_wp2
   go_ret;exact ⟨_,rfl,Kd.R_nil _ _ _ _ _,Below.refl _ _⟩
  | some ad =>
   have HN:=Lib.hid (Go.Proofs.YtoigkneoaemcfaaDoor.Kw.cells_of hr0);obtain ⟨i0,hi,hz0,hz1,hz2⟩:=info_parts (show (Tryd.prog.info? 3).map (fun i => (i.zero,i.size,i.bytes)) = some (some (.int .i64 0),1,8) from by kernel_rfl);clear hr0;go_enter Tryd.func71,Tryd.ntmps71;go_wp2_with (at_builtin;refine wpList_append_own _ rfl _ _ 38 rfl w.heap.size 3 i0 (.int .i64 0) 1 8 Tryd.underlying38 hi hz0 hz1 hz2 rfl (by decide) _ _ _ rfl (World.ownsRow_made w #[] 0 (Nat.le_refl _) (Nat.zero_le _) rfl) ad l0.length c0 (l0.map (Value.int .i64)) rfl ?qc1 ?qc2 ?qc3 ?qc4 ?qc5 ?qc6 ?_)
   case qc1 => simp
   case qc2 => intro j u hj;exact Lib.cell?_alloc_some _ (HN.out j u hj)
   case qc3 => intro u hu;obtain ⟨x,_,rfl⟩:=List.mem_map.1 hu;rfl
   case qc4 => unfold maxLen;omega
   case qc5 => omega
   case qc6 => simp
   intro v' w1 hown hgrow hnil;go_wp2
   go_ret;refine ⟨v',rfl,Go.Proofs.YtoigkneoaemcfaaDoor.Kw.R_of_own (by simpa using hown),?_⟩;exact ((Below.refl _ w).alloc (Nat.le_refl _) _).grown hgrow (by simp) (by intro k hk;simp [Value.ownBlock] at hk;omega)
 ·rw [if_neg hlen] at h;cases h
def kidsI (l:List (S40)):List (List Int):=l.map (·.f3)
theorem kidsI_at (l:List (S40)) (i:Int):(kidsI l).getD i.toNat [] = (rd_T40 l i).f3:=by
 unfold kidsI rd_T40
 rw [List.getD_eq_getElem?_getD,List.getElem?_map,List.getD_eq_getElem?_getD];cases l[i.toNat]? <;> rfl
theorem kids_len (l:List (S40)):(kidsI l).length = l.length:=by unfold kidsI;rw [List.length_map]
theorem own_cut {w:World} {base e:Nat} {g n cap:Nat} {xs:List Value} {x:Value} (h:w.ownsRow base e 1 (.slice (some ⟨g,0,none⟩) (n+1) cap) (n+1) (xs ++ [x])):w.ownsRow base e 1 (.slice (some ⟨g,0,none⟩) n cap) n xs:=by
 obtain ⟨hl,h2⟩:=h;have hx:xs.length = n:=by simp at hl;omega
 refine ⟨by omega,?_⟩;rcases h2 with ⟨h2,_⟩ | ⟨g',cap',cur,hv,hg,hh,hn,hc,hs,ht⟩
 ·cases h2
 ·cases hv
  refine .inr ⟨g,cap,cur,rfl,hg,hh,by omega,hc,hs,?_⟩;have:(cur.toList.take ((n+1) * 1)).take (n * 1) = (xs ++ [x]).take (n * 1):=by rw [ht]
  rw [List.take_take,Nat.min_eq_left (by omega),Nat.mul_one,← hx,List.take_left] at this;rw [Nat.mul_one,← hx];exact this
def intsOf (l:List Nat):List Int:=l.map Int.ofNat
theorem intsOf_len (l:List Nat):(intsOf l).length = l.length:=by unfold intsOf;rw [List.length_map]
def Reached (G:List (List Nat)) (src:List Nat) (w:World) (row:Option Nat) (e:Ending) (w':World):Prop :=
 ∃ b n met,e = .returned (.map (some b))∧w.heap.size≤b∧Set.IsSet w' b n met∧n≤met.length∧met.Nodup∧(∀ j,j ∈ met↔∃ f,f ∈ src∧GT.Path G f j)∧w.grownBy w' row
theorem reach_calls (A0:Option Addr) (c0:Nat) (l0:List (S40)) (a1:Int) (w0 w:World) (hB:Below w0.heap.size w0 w) (hr0:Kd.C k40 w0 A0 l0.length l0) (P:Nat→Prop) (v:Value) (src:List Nat)
  (hown:Kd.R (Kd.int .i64) 3 w w0.heap.size P v (intsOf src)) (hgood:GT.firstBad (kidsI l0) = none) (hs:∀ x ∈ src,x < l0.length) (hlen:l0.length≤1000000) (hsum:((kidsI l0).map List.length).sum≤1000000) (hsl:src.length≤1000000) :
  Calls Tryd.prog 70 #[.agg #[.slice A0 l0.length c0,.int .i64 a1],v] w (Reached (GT.toG (kidsI l0)) src w v.ownBlock):=by
 have HW:=Lib.hid (GT.wf_of_firstBad hgood);have HR:=Lib.hid hr0;have HB:=Lib.hid hB;have HO:=Lib.hid (Kw.own_of_R hown);have HG:=Lib.hid hgood;have HS:=Lib.hid hs;have hvb:v.ownBlock = none ∨ ∃ g,v.ownBlock = some g∧g < w.heap.size:=by
  rcases (Kw.own_of_R hown).2 with ⟨rfl,_⟩ | ⟨g,cap,cur,rfl,hg,hh,_⟩
  ·exact .inl rfl
  ·exact .inr ⟨g,rfl,(Array.getElem?_eq_some_iff.1 hh).1⟩
 have HV:=Lib.hid hvb;have hvb0:∀ g,v.ownBlock = some g→w0.heap.size≤g:=own_base (Kw.own_of_R hown);have HV0:=Lib.hid hvb0;obtain ⟨n0,hn0⟩:∃ n,n = GT.rest (GT.toG (kidsI l0)) (fun i => decide (i ∈ ([]:List Nat)))+src.length:=⟨_,rfl⟩;have HN:=Lib.hid hn0;have HE:Hid (∀ met:List Nat,GT.rest (GT.toG (kidsI l0)) (fun i => decide (i ∈ met))≤1000000):=Lib.hid (fun (met:List Nat) => by
  have h1:=GT.rest_none (GT.toG (kidsI l0));have h2:=GT.rest_le (GT.toG (kidsI l0)) (fun i => decide (i ∈ met));rw [GT.edges_toG] at h1 h2;omega)
 clear hr0 hB hown hgood hs hn0 hsum hvb hvb0;have hmm:=@run_makeMap Tryd.prog;go_enter Tryd.func70,Tryd.ntmps70;go_wp2
 have hB0:=HB.out.size;go_loopg [1] n0 (fun kq v1 wr => ∃ (st met:List Nat) (m:Nat),Aside0 (wr.ownsRow w0.heap.size 3 1 v1 (intsOf st).length ((intsOf st).map (Value.int .i64)))∧Aside0 (Set.IsSet wr (w.heap.size+1) m met∧m≤met.length) ∧
   Aside0 (GT.Inv (GT.toG (kidsI l0)) (· ∈ src) (· ∈ st) (· ∈ met))∧Aside0 (∀ x ∈ st,x < l0.length)∧Aside0 (∀ x ∈ met,x < l0.length)∧Aside0 met.Nodup∧Aside0 (GT.rest (GT.toG (kidsI l0)) (fun i => decide (i ∈ met))+st.length≤kq)∧Aside0 (kq≤n0) ∧
   Aside0 (wr.heap[w.heap.size]? = some (.cells #[.slice A0 l0.length c0,.int .i64 a1] 27 (0,0)))∧Aside0 (w.grownBy wr v.ownBlock)∧Aside0 (v1.ownBlock = v.ownBlock ∨ v1.ownBlock = none ∨ ∃ g,v1.ownBlock = some g∧w.heap.size+2≤g))
 case atStart =>
  refine ⟨src,[],0,⟨?_⟩,⟨?_⟩,⟨⟨fun f hf => .inr hf,(fun m hm => by cases hm),fun x hx => ⟨x,hx.elim (fun h => by cases h) id,.refl x⟩⟩⟩,⟨HS.out⟩,⟨fun x hx => by cases hx⟩,⟨List.nodup_nil⟩,⟨Nat.le_of_eq HN.out.symm⟩,⟨Nat.le_refl _⟩,⟨?_⟩,⟨?_⟩,⟨.inl rfl⟩⟩
  ·exact (HO.out.alloc _).alloc _
  ·have:=Set.made (w.alloc (.cells #[.slice A0 l0.length c0,.int .i64 a1] 27));exact ⟨by simpa using this,Nat.le_refl _⟩
  ·exact blk_alloc (heap_alloc_new w _) _
  ·exact Kw.grown_trans (World.grownBy_alloc _ _ _) (World.grownBy_alloc _ _ none) (.inr (.inl rfl))
 case round =>
  obtain ⟨st,met,m,ho,hset,hI,hst,hmet,hnd,hk,hk0,hbx,hg,hv1⟩:=hrel;have hse:=HE.out met;have HBw:=Lib.hid (Kw.grown_below HB.out hg.out HV0.out);have hsz:=hg.out.size;have hblt:w.heap.size < wr.heap.size:=blk_lt hbx.out;have hcase:st = [] ∨ ∃ st0 x,st = st0 ++ [x]:=by
   rcases List.eq_nil_or_concat st with h | ⟨a,b,h⟩
   ·exact .inl h
   ·exact .inr ⟨a,b,by rw [h,List.concat_eq_append]⟩
  rcases hcase with rfl | ⟨st0,x,rfl⟩
  ·have hform:∃ A c,u1 = .slice A 0 c:=by
    rcases ho.out.2 with ⟨rfl,_⟩ | ⟨g,cap,cur,rfl,_⟩
    ·exact ⟨_,_,rfl⟩
    ·exact ⟨_,_,rfl⟩
   obtain ⟨A,c,rfl⟩:=hform;go_wp2_with (fail)
   go_ret;exact ⟨w.heap.size+1,m,met,rfl,by omega,hset.out.1,hset.out.2,hnd.out,fun j => hI.out.done (fun y hy => by cases hy) j,hg.out⟩
  ·obtain ⟨g,cap,hv⟩:∃ g cap,u1 = .slice (some ⟨g,0,none⟩) (intsOf (st0 ++ [x])).length cap:=by
    rcases ho.out.2 with ⟨_,h0⟩ | ⟨g,cap,cur,hv,_⟩
    ·rw [intsOf_len] at h0;simp at h0
    ·exact ⟨g,cap,by simpa using hv⟩
   subst hv;have hlen2:(intsOf (st0 ++ [x])).length = st0.length+1:=by rw [intsOf_len];simp
   have ho2:=ho.out;rw [hlen2] at ho2;have hlst:st0.length≤3000000:=by
    have h1:=hk.out;have h2:=hk0.out;have h3:=HN.out;have h4:=HE.out [];simp at h1
    omega
   have hc:wr.cell? ⟨g,st0.length,none⟩ = some (.int .i64 (x:Int)):=by
    rw [ho2.cellAt st0.length (by omega)];unfold intsOf
    simp
   have hocut:wr.ownsRow w0.heap.size 3 1 (.slice (some ⟨g,0,none⟩) st0.length cap) st0.length ((intsOf st0).map (Value.int .i64)):=by
    refine own_cut (x:=.int .i64 (x:Int)) ?_;have e:(intsOf (st0 ++ [x])).map (Value.int .i64) = (intsOf st0).map (Value.int .i64) ++ [.int .i64 (x:Int)]:=by unfold intsOf;simp
    rw [e] at ho2;exact ho2
   have HO2:=Lib.hid hocut;have hcap:st0.length+1≤cap:=by
    rcases ho2.2 with ⟨h,_⟩ | ⟨g',cap',cur,hv,_,_,hn,_⟩
    ·cases h
    ·cases hv;exact hn
   have hcap2:cap≤maxLen:=by
    rcases ho2.2 with ⟨h,_⟩ | ⟨g',cap',cur,hv,_,_,hn,hm,_⟩
    ·cases h
    ·cases hv;exact hm
   have hxl:x < l0.length:=hst.out x (by simp);obtain ⟨xi,hxi⟩:∃ z:Int,z = (x:Int):=⟨_,rfl⟩;rw [← hxi] at hc;have hxp:0≤xi:=by omega
   have hxq:xi < (l0.length:Int):=by omega
   have HX:=Lib.hid hxi;rw [hlen2];clear ho2 hocut hxi hlen2 hsz hse;have hwd:x≤9223372036854775807:=by omega
   have e1:IntKind.i64.wrap ((st0.length:Int)+1 - 1) = st0.length:=IntWalk.i64_in _ (by omega) |>.trans (by omega)
   by_cases hxm:x ∈ met
   ·have hd:decide (x ∈ met) = true:=decide_eq_true hxm;go_wp2_with (at_lookup;refine Set.wpList_look _ rfl _ _ rfl (w.heap.size+1) m met hset.out.1 x hwd xi HX.out rfl rfl ?_;rw [hd])
    cases gk with
    | zero => have:=hk.out;simp at this
    | succ gk =>
     go_roundg gk
     case measure => omega
     case rel =>
      refine ⟨st0,met,m,⟨by rw [intsOf_len];exact HO2.out⟩,hset,⟨hI.out.drop x hxm (fun y hy => ?_) (fun y hy => List.mem_append.2 (.inl hy))⟩,⟨fun y hy => hst.out y (List.mem_append.2 (.inl hy))⟩,hmet,hnd,⟨?_⟩,⟨?_⟩,hbx,hg,⟨?_⟩⟩
      ·rcases List.mem_append.1 hy with h | h
       ·exact .inr h
       ·exact .inl (List.mem_singleton.1 h)
      ·have:=hk.out;simp at this;omega
      ·have:=hk0.out;omega
      ·exact hv1.out
   ·have hd:decide (x ∈ met) = false:=decide_eq_false hxm;have hml:met.length≤l0.length:=GT.length_le_of_nodup hnd.out hmet.out;have hmx:m < maxLen:=by have:=hset.out.2;unfold maxLen;omega
    have hslt:=hset.out.1.lt;have hgb:=hv1.out;have hgne:g≠w.heap.size∧g≠w.heap.size+1:=by
     rcases hgb with h | h | ⟨g',h,hg'⟩
     ·rcases HV.out with h2 | ⟨g2,h2,hg2⟩
      ·rw [h2] at h;simp [Value.ownBlock] at h
      ·rw [h2] at h;simp [Value.ownBlock] at h;omega
     ·simp [Value.ownBlock] at h
     ·simp [Value.ownBlock] at h;omega
    have HGN:=Lib.hid hgne;obtain ⟨ad,A1,c1,A2,c2,A3,c3,e,hx0,hx1,hx2,hx3,hl1,hi1,hl2,hi2,hl3,hi3⟩:=at_T40 HR.out xi hxp hxq;cases e
    have hkl:((rd_T40 l0 xi).f3).length≤1000000:=by
     have h1:=HE.out met;have h2:=GT.rest_kid (G:=GT.toG (kidsI l0)) (i:=x) (by rw [GT.length_toG,kids_len];exact hxl);have h3:(GT.kids (GT.toG (kidsI l0)) x).length = ((rd_T40 l0 xi).f3).length:=by
      rw [GT.kids_toG,List.length_map,← kidsI_at,HX.out,Int.toNat_natCast]
     have h4:=HE.out [];have h5:GT.rest (GT.toG (kidsI l0)) (fun i => decide (i ∈ ([]:List Nat))) = GT.edges (GT.toG (kidsI l0)):=by rw [← GT.rest_none];congr 1
     omega
    have HX3:=Lib.hid hx3;have HI3:=Lib.hid hi3;have hl3':=hl3;clear hx0 hx1 hx2 hx3 hl1 hi1 hl2 hi2 hi3 hgne hgb hl3;go_wp2_with (first
     | (at_lookup;refine Set.wpList_look _ rfl _ _ rfl (w.heap.size+1) m met hset.out.1 x hwd xi HX.out rfl rfl ?_;rw [hd])
     | (at_mapUpdate;refine Set.wpList_store _ rfl _ _ _ rfl (w.heap.size+1) m met hset.out.1 x hwd xi HX.out hmx rfl rfl rfl ?_;intro w1 hset1 hg1;have HS1:=Lib.hid hset1;have HG1:=Lib.hid hg1;have HB1:=Lib.hid (Kw.grown_below HBw.out hg1 (fun k hk => by cases hk;omega));have HX1:=Lib.hid (hg1.block w.heap.size hblt (by simp));have q0:w1.cell? ⟨w.heap.size,0,none⟩ = some (.slice (some ad) l0.length c0):=(blk_cell (HX1.out.trans hbx.out) 0).trans rfl;have q3:=(HB1.out.cell (World.block_lt_of_cell? w0 _ HX3.out)).trans HX3.out;have HO3:=Lib.hid (HO2.out.kept hg1 (.inr (fun h => HGN.out.2 (by simpa [Value.ownBlock] using h))));have hsz1:=hg1.size;clear hset1 hg1)
     | (at_builtin;refine Kd.R_append_rows (Kd.int .i64) (w0:=w0) w0.heap.size rfl _ _ 38 3 (.int .i64 0) 8 rfl Tryd.underlying38 (show (Tryd.prog.info? 3).map (fun i => (i.zero,i.size,i.bytes)) = some (some (.int .i64 0),1,8) from by kernel_rfl) rfl (by decide) (by omega) (.slice (some ⟨g,0,none⟩) st0.length cap) (intsOf st0) ((rd_T40 l0 xi).f3) A3 _ c3 (fun _ => True) (fun _ => False) rfl rfl (Kw.R_of_own (by rw [intsOf_len];exact HO3.out)) (Kd.C_below HI3.out HB1.out) (fun _ _ h => h) (fun _ h => h.elim) (fun _ _ => trivial) HB1.out (by omega) (by rw [intsOf_len];omega) ?_;intro v2 w2 hR2 hb2 hg2 hat2))
    cases gk with
    | zero => have:=hk.out;simp at this
    | succ gk =>
     go_roundg gk
     case measure => omega
     case rel =>
      have hGT:GT.kids (GT.toG (kidsI l0)) x = ((rd_T40 l0 xi).f3).map Int.toNat:=by rw [GT.kids_toG,← kidsI_at,HX.out,Int.toNat_natCast]
      have hpos:∀ z ∈ (rd_T40 l0 xi).f3,0≤z:=fun z hz => (GT.good_of_firstBad (K:=kidsI l0) HG.out (i:=xi.toNat) (by rw [kidsI_at];exact hz)).1
      have hkid:intsOf (GT.kids (GT.toG (kidsI l0)) x) = (rd_T40 l0 xi).f3:=by
       rw [hGT];unfold intsOf
       rw [List.map_map];conv => rhs;rw [← List.map_id ((rd_T40 l0 xi).f3)]
       refine List.map_congr_left (fun z hz => ?_);have:=hpos z hz;show ((z.toNat:Nat):Int) = z
       omega
      have hlist:intsOf st0 ++ (rd_T40 l0 xi).f3 = intsOf (st0 ++ GT.kids (GT.toG (kidsI l0)) x):=by
       rw [← hkid];unfold intsOf;rw [List.map_append]
      have hR3:=Kw.own_of_R hR2;rw [hlist] at hR3;have hxl2:x < (GT.toG (kidsI l0)).length:=by rw [GT.length_toG,kids_len];exact hxl
      refine ⟨st0 ++ GT.kids (GT.toG (kidsI l0)) x,x :: met,m+1,⟨hR3⟩,⟨HS1.out.kept hg2 ?_,?_⟩,⟨hI.out.take x (by simp) (fun y hy => ?_) (fun y hy => ?_) (fun y hy => List.mem_append.2 (.inr hy)) (fun y => List.mem_cons)⟩,⟨fun y hy => ?_⟩,⟨fun y hy => ?_⟩,⟨List.nodup_cons.2 ⟨hxm,hnd.out⟩⟩,⟨?_⟩,⟨?_⟩,⟨?_⟩,⟨?_⟩,⟨?_⟩⟩
      ·intro h;exact HGN.out.2 (by simpa [Value.ownBlock] using h.symm)
      ·have:=hset.out.2;simp only [List.length_cons];omega
      ·rcases List.mem_append.1 hy with h | h
       ·exact .inr (List.mem_append.2 (.inl h))
       ·exact .inl (List.mem_singleton.1 h)
      ·rcases List.mem_append.1 hy with h | h
       ·exact .inl (List.mem_append.2 (.inl h))
       ·exact .inr h
      ·rcases List.mem_append.1 hy with h | h
       ·exact hst.out y (List.mem_append.2 (.inl h))
       ·have:=HW.out x y h;rw [GT.length_toG,kids_len] at this;exact this
      ·rcases List.mem_cons.1 hy with rfl | h
       ·exact hxl
       ·exact hmet.out y h
      ·have h1:=GT.rest_take (G:=GT.toG (kidsI l0)) (met:=fun i => decide (i ∈ met)) (met':=fun i => decide (i ∈ x :: met)) hxl2 (by simpa using hxm) (by simp) (fun y hy => by simp [hy]);have h2:=hk.out;simp only [List.length_append,List.length_cons,List.length_nil] at h2 ⊢;omega
      ·have:=hk0.out;omega
      ·rw [hg2.block w.heap.size (by omega) (fun h => HGN.out.1 (by simpa [Value.ownBlock] using h.symm)),HX1.out];exact hbx.out
      ·refine Kw.grown_trans (Kw.grown_trans hg.out HG1.out (.inr (.inr ⟨_,rfl,by omega⟩))) hg2 ?_;rcases hv1.out with h | h | ⟨g',h,hg'⟩
       ·exact .inl h
       ·exact .inr (.inl h)
       ·exact .inr (.inr ⟨g',h,by omega⟩)
      ·rcases hat2 with h | ⟨b,h,hb⟩
       ·rw [h];exact hv1.out
       ·exact .inr (.inr ⟨b,h,by omega⟩)
def SBox (w:World) (gb:Nat) (A0:Option Addr) (n c0:Nat) (a1:Int):Prop:=w.heap[gb]? = some (.cells #[.slice A0 n c0,.int .i64 a1] 27 (0,0))
set_option maxRecDepth 100000 in
theorem kid_bad (k:Int) (gb:Nat) (A0:Option Addr) (n c0:Nat) (a1:Int) (w:World) (hb:SBox w gb A0 n c0 a1) (hn:n≤1000000) :
  Calls Tryd.prog 95 #[.int .i64 k,.pointer (some ⟨gb,0,none⟩)] w fun e w' => e = .returned (.bool (GT.badKid n k))∧w' = w:=by
 have q0:w.cell? ⟨gb,0,none⟩ = some (.slice A0 n c0):=(blk_cell hb 0).trans rfl;have HB:=Lib.hid hb;clear hb;by_cases h0:k < 0
 ·have t0:decide (k < 0) = true:=decide_eq_true h0;have hr:GT.badKid n k = true:=by unfold GT.badKid;rw [t0];rfl
  rw [hr];go_enter Tryd.func95,Tryd.ntmps95;go_wp2
  go_ret;exact ⟨rfl,rfl⟩
 ·have t0:decide (k < 0) = false:=decide_eq_false h0;by_cases h1:(n:Int)≤k
  ·have t1:decide ((n:Int)≤k) = true:=decide_eq_true h1;have hr:GT.badKid n k = true:=by unfold GT.badKid;rw [t0,t1];rfl
   rw [hr];go_enter Tryd.func95,Tryd.ntmps95;go_wp2
   go_ret;exact ⟨rfl,rfl⟩
  ·have t1:decide ((n:Int)≤k) = false:=decide_eq_false h1;have hr:GT.badKid n k = false:=by unfold GT.badKid;rw [t0,t1];rfl
   rw [hr];go_enter Tryd.func95,Tryd.ntmps95;go_wp2
   go_ret;exact ⟨rfl,rfl⟩
theorem SBox.below {w w':World} {gb:Nat} {A0:Option Addr} {n c0:Nat} {a1:Int} (h:SBox w gb A0 n c0 a1) (hb:Below w.heap.size w w'):SBox w' gb A0 n c0 a1:=(hb.block gb (blk_lt h)).trans h
def idxI (n:Nat):List Int→Int→Int
 | [],_ => -1
 | k :: l,i => if GT.badKid n k = true then i else idxI n l (i+1)
theorem idxI_any (n:Nat):∀ (l:List Int) (i:Int),0≤i→(0≤idxI n l i↔l.any (GT.badKid n) = true)
 | [],i,_ => by simp [idxI]
 | k :: l,i,hi => by
  rw [idxI,List.any_cons];by_cases hb:GT.badKid n k = true
  ·rw [if_pos hb,hb];simp [hi]
  ·rw [if_neg hb,idxI_any n l (i+1) (by omega)];simp [hb]
set_option maxHeartbeats 4000000 in
set_option maxRecDepth 100000 in
theorem idx_ints (A:Option Addr) (c:Nat) (l:List Int) (gb:Nat) (A0:Option Addr) (n c0:Nat) (a1:Int) (w:World) (hb:SBox w gb A0 n c0 a1) (hn:n≤1000000) (hr:Kd.C (Kd.int .i64) w A l.length l) (hl:l.length≤1000000) :
  Calls Tryd.prog 105 #[.slice A l.length c,.func (.func 95) #[] #[.pointer (some ⟨gb,0,none⟩)]] w fun e w' => e = .returned (.int .i64 (idxI n l 0))∧Below w.heap.size w w':=by
 have HB:=Lib.hid hb;have HR:=Lib.hid hr;clear hb hr;go_enter Tryd.func105,Tryd.ntmps105;go_wp2
 go_loopg [8] l.length (fun kq v8 wr => ∃ i:Int,v8 = .int .i64 i∧0≤i∧i+kq = l.length∧Aside0 (idxI n (l.drop i.toNat) i = idxI n l 0)∧Aside0 (Below w.heap.size w wr))
 case atStart => exact ⟨0,rfl,by omega,by omega,⟨rfl⟩,⟨Below.refl _ _⟩⟩
 case round =>
  obtain ⟨i,rfl,hi0,hik,hidx,hbel⟩:=hrel;by_cases hlt:i < (l.length:Int)
  ·have t0:decide (i < (l.length:Int)) = true:=decide_eq_true hlt;obtain ⟨ad,e,hx⟩:=Kd.at_int (Kd.C_below HR.out hbel.out) i hi0 hlt;cases e
   have hd:l.drop i.toNat = rd l i :: l.drop (i.toNat+1):=by
    rw [List.drop_eq_getElem_cons (by omega)];unfold rd
    rw [List.getD_eq_getElem?_getD,List.getElem?_eq_getElem (by omega)];rfl
   have hi2:=hidx.out;rw [hd,idxI] at hi2;have HI:=Lib.hid hi2;clear hi2 hd;cases hbk:GT.badKid n (rd l i) with
   | true =>
    have HK:=Lib.hid hbk;go_wp2_with (fail)
    refine (kid_bad (rd l i) gb A0 n c0 a1 wr (HB.out.below hbel.out) hn).mono ?_;rintro e w1 ⟨rfl,rfl⟩;rw [hbk];clear hbk;go_wp2_with (fail)
    go_ret;exact ⟨by rw [← HI.out,if_pos HK.out];rfl,hbel.out⟩
   | false =>
    have HK:=Lib.hid hbk;go_wp2_with (fail)
    refine (kid_bad (rd l i) gb A0 n c0 a1 wr (HB.out.below hbel.out) hn).mono ?_;rintro e w1 ⟨rfl,rfl⟩;rw [hbk];clear hbk;cases gk with
    | zero => omega
    | succ gk =>
     go_wp2_with (fail)
     go_roundg gk
     case measure => omega
     case rel => exact ⟨i+1,rfl,by omega,by omega,⟨by rw [show (i+1).toNat = i.toNat+1 by omega,← HI.out,if_neg (by rw [HK.out];simp)]⟩,hbel⟩
  ·have t0:decide (i < (l.length:Int)) = false:=decide_eq_false hlt;go_wp2_with (fail)
   go_ret;exact ⟨by rw [← hidx.out,List.drop_of_length_le (by omega)];rfl,hbel.out⟩
set_option maxHeartbeats 4000000 in
set_option maxRecDepth 100000 in
theorem any_ints (A:Option Addr) (c:Nat) (l:List Int) (gb:Nat) (A0:Option Addr) (n c0:Nat) (a1:Int) (w:World) (hb:SBox w gb A0 n c0 a1) (hn:n≤1000000) (hr:Kd.C (Kd.int .i64) w A l.length l) (hl:l.length≤1000000) :
  Calls Tryd.prog 94 #[.slice A l.length c,.func (.func 95) #[] #[.pointer (some ⟨gb,0,none⟩)]] w fun e w' => e = .returned (.bool (l.any (GT.badKid n)))∧Below w.heap.size w w':=by
 have HB:=Lib.hid hb;have HR:=Lib.hid hr;have HI:=Lib.hid (idxI_any n l 0 (by omega));clear hb hr;go_enter Tryd.func94,Tryd.ntmps94;go_wp2_with (fail)
 refine (idx_ints A c l gb A0 n c0 a1 w HB.out hn HR.out hl).mono ?_;rintro e w1 ⟨rfl,hb1⟩;have HB1:=Lib.hid hb1;clear hb1;cases ha:l.any (GT.badKid n) with
 | true =>
  have t0:decide (0≤idxI n l 0) = true:=decide_eq_true (HI.out.2 ha);have HA:=Lib.hid ha;clear ha;go_wp2_with (fail)
  go_ret;exact ⟨by rw [HA.out];rfl,HB1.out⟩
 | false =>
  have t0:decide (0≤idxI n l 0) = false:=decide_eq_false (fun h => by rw [HI.out.1 h] at ha;cases ha);have HA:=Lib.hid ha;clear ha;go_wp2_with (fail)
  go_ret;exact ⟨by rw [HA.out];rfl,HB1.out⟩
set_option maxHeartbeats 4000000 in
set_option maxRecDepth 100000 in
theorem node_bad (k0:Int) (v1 v2:Value) (A:Option Addr) (c:Nat) (l:List Int) (gb:Nat) (A0:Option Addr) (n c0:Nat) (a1:Int) (w:World) (hb:SBox w gb A0 n c0 a1) (hn:n≤1000000) (hr:Kd.C (Kd.int .i64) w A l.length l) (hl:l.length≤1000000) (h1:v1.oneCell' = true) (h2:v2.oneCell' = true) :
  Calls Tryd.prog 93 #[.agg #[.int .i64 k0,v1,v2,.slice A l.length c],.pointer (some ⟨gb,0,none⟩)] w fun e w' => e = .returned (.bool (l.any (GT.badKid n)))∧Below w.heap.size w w':=by
 have HB:=Lib.hid hb;have HR:=Lib.hid hr;clear hb hr;have hmf:∀ (fn:Fn) (first cap:Array Value) (w:World),(Instr.makeFunc fn first cap).run Tryd.prog w = .ok (.func fn first cap) w:=fun _ _ _ _ => rfl
 go_enter Tryd.func93,Tryd.ntmps93;go_wp2_with (fail)
 have hal:Below w.heap.size w (w.alloc (.cells #[.int .i64 k0,v1,v2,.slice A l.length c] 40)):=(Below.refl _ _).alloc (Nat.le_refl _) _;refine (any_ints A c l gb A0 n c0 a1 _ (HB.out.below hal) hn (Kd.C_below HR.out hal) hl).mono ?_;rintro e w1 ⟨rfl,hb1⟩;have HB1:=Lib.hid (below_step hal hb1);clear hb1 hal;go_wp2_with (fail)
 go_ret;exact ⟨rfl,HB1.out⟩
def idxN (n:Nat):List (List Int)→Int→Int
 | [],_ => -1
 | l :: K,i => if l.any (GT.badKid n) = true then i else idxN n K (i+1)
theorem idxN_find (n:Nat):∀ (K:List (List Int)) (i:Int),idxN n K i = match K.findIdx? (fun l => l.any (GT.badKid n)) with | some j => i+(j:Int) | none => -1
 | [],i => by simp [idxN]
 | l :: K,i => by
  rw [idxN,List.findIdx?_cons];by_cases hb:l.any (GT.badKid n) = true
  ·rw [if_pos hb,hb];simp
  ·rw [if_neg hb,idxN_find n K (i+1)];rw [Bool.not_eq_true] at hb;rw [hb];cases K.findIdx? (fun l => l.any (GT.badKid n)) with
   | none => rfl
   | some j => show i+1+(j:Int) = i+((j+1:Nat):Int);omega
theorem idx_nodes (A0:Option Addr) (c0 c:Nat) (l0:List (S40)) (gb:Nat) (a1:Int) (w:World) (hb:SBox w gb A0 l0.length c0 a1) (hn:l0.length≤1000000) (hr:Kd.C k40 w A0 l0.length l0) (hl:∀ i:Int,((rd_T40 l0 i).f3).length≤1000000) :
  Calls Tryd.prog 92 #[.slice A0 l0.length c,.func (.func 93) #[] #[.pointer (some ⟨gb,0,none⟩)]] w fun e w' => e = .returned (.int .i64 (idxN l0.length (kidsI l0) 0))∧Below w.heap.size w w':=by
 have HB:=Lib.hid hb;have HR:=Lib.hid hr;have HL:=Lib.hid hl;clear hb hr hl;go_enter Tryd.func92,Tryd.ntmps92;go_wp2
 go_loopg [8] l0.length (fun kq v8 wr => ∃ i:Int,v8 = .int .i64 i∧0≤i∧i+kq = l0.length∧Aside0 (idxN l0.length ((kidsI l0).drop i.toNat) i = idxN l0.length (kidsI l0) 0)∧Aside0 (Below w.heap.size w wr))
 case atStart => exact ⟨0,rfl,by omega,by omega,⟨rfl⟩,⟨Below.refl _ _⟩⟩
 case round =>
  obtain ⟨i,rfl,hi0,hik,hidx,hbel⟩:=hrel;by_cases hlt:i < (l0.length:Int)
  ·have t0:decide (i < (l0.length:Int)) = true:=decide_eq_true hlt;obtain ⟨ad,A1,c1,A2,c2,A3,c3,e,hx0,hx1,hx2,hx3,hl1,hi1,hl2,hi2,hl3,hi3⟩:=at_T40 (Kd.C_below HR.out hbel.out) i hi0 hlt;cases e
   have hkl:=kids_len l0;have hd:(kidsI l0).drop i.toNat = (rd_T40 l0 i).f3 :: (kidsI l0).drop (i.toNat+1):=by
    rw [List.drop_eq_getElem_cons (by omega),← kidsI_at,List.getD_eq_getElem?_getD,List.getElem?_eq_getElem (by omega)];rfl
   have hi2:=hidx.out;rw [hd,idxN] at hi2;have HI:=Lib.hid hi2;have HI3:=Lib.hid hi3;clear hi2 hd hi3 hi1 hl1 hl2 hkl;cases hbk:((rd_T40 l0 i).f3).any (GT.badKid l0.length) with
   | true =>
    have HK:=Lib.hid hbk;clear hbk;go_wp2_with (fail)
    refine (node_bad _ _ _ A3 c3 ((rd_T40 l0 i).f3) gb (some ad) l0.length c0 a1 wr (HB.out.below hbel.out) hn HI3.out (HL.out i) rfl rfl).mono ?_;rintro e w1 ⟨rfl,hb1⟩;rw [HK.out];have HB1:=Lib.hid (below_step hbel.out hb1);clear hb1;go_wp2_with (fail)
    go_ret;exact ⟨by rw [← HI.out,if_pos HK.out];rfl,HB1.out⟩
   | false =>
    have HK:=Lib.hid hbk;clear hbk;go_wp2_with (fail)
    refine (node_bad _ _ _ A3 c3 ((rd_T40 l0 i).f3) gb (some ad) l0.length c0 a1 wr (HB.out.below hbel.out) hn HI3.out (HL.out i) rfl rfl).mono ?_;rintro e w1 ⟨rfl,hb1⟩;rw [HK.out];have HB1:=Lib.hid (below_step hbel.out hb1);clear hb1;cases gk with
    | zero => omega
    | succ gk =>
     go_wp2_with (fail)
     go_roundg gk
     case measure => omega
     case rel => exact ⟨i+1,rfl,by omega,by omega,⟨by rw [show (i+1).toNat = i.toNat+1 by omega,← HI.out,if_neg (by rw [HK.out];simp)]⟩,⟨HB1.out⟩⟩
  ·have t0:decide (i < (l0.length:Int)) = false:=decide_eq_false hlt;have hkl:=kids_len l0;go_wp2_with (fail)
   go_ret;exact ⟨by rw [← hidx.out,List.drop_of_length_le (by omega)];rfl,hbel.out⟩
def refsZ (K:List (List Int)):Int:=match GT.firstBad K with | some j => (j:Int) | none => -1
theorem kid_len (l0:List (S40)) (h:((kidsI l0).map List.length).sum≤1000000) (i:Int):((rd_T40 l0 i).f3).length≤1000000:=by
 rw [← kidsI_at];have hsum:∀ K:List (List Int),∀ j,(K.getD j []).length≤(K.map List.length).sum:=by
  intro K;induction K with
  | nil => intro j;simp
  | cons l K ih =>
   intro j;cases j with
   | zero => simp
   | succ j => have:=ih j;simp only [List.getD_cons_succ,List.map_cons,List.sum_cons];omega
 exact Nat.le_trans (hsum _ _) h
set_option maxHeartbeats 4000000 in
set_option maxRecDepth 100000 in
theorem refs_calls (A0:Option Addr) (c0:Nat) (l0:List (S40)) (a1:Int) (w:World) (hn:l0.length≤1000000) (hsum:((kidsI l0).map List.length).sum≤1000000) (hr:Kd.C k40 w A0 l0.length l0) :
  Calls Tryd.prog 68 #[.agg #[.slice A0 l0.length c0,.int .i64 a1]] w fun e w' => e = .returned (.int .i64 (refsZ (kidsI l0)))∧Below w.heap.size w w':=by
 have HR:=Lib.hid hr;have HS:=Lib.hid (kid_len l0 hsum);clear hr hsum;have hmf:∀ (fn:Fn) (first cap:Array Value) (w:World),(Instr.makeFunc fn first cap).run Tryd.prog w = .ok (.func fn first cap) w:=fun _ _ _ _ => rfl
 go_enter Tryd.func68,Tryd.ntmps68;go_wp2_with (fail)
 have hal:Below w.heap.size w (w.alloc (.cells #[.slice A0 l0.length c0,.int .i64 a1] 27)):=(Below.refl _ _).alloc (Nat.le_refl _) _;refine (idx_nodes A0 c0 c0 l0 w.heap.size a1 _ (heap_alloc_new w _) hn (Kd.C_below HR.out hal) HS.out).mono ?_;rintro e w1 ⟨rfl,hb1⟩;have HB1:=Lib.hid (below_step hal hb1);clear hb1 hal;go_wp2_with (fail)
 go_ret;refine ⟨?_,HB1.out⟩;rw [idxN_find];unfold refsZ GT.firstBad
 rw [kids_len];cases (kidsI l0).findIdx? (fun l => l.any (GT.badKid l0.length)) with
 | none => rfl
 | some j => simp
theorem kids_ints {l0:List (S40)} (hgood:GT.firstBad (kidsI l0) = none) (i:Int):intsOf (GT.kids (GT.toG (kidsI l0)) i.toNat) = (rd_T40 l0 i).f3:=by
 rw [GT.kids_toG,kidsI_at];unfold intsOf
 rw [List.map_map];conv => rhs;rw [← List.map_id ((rd_T40 l0 i).f3)]
 refine List.map_congr_left (fun z hz => ?_);have:=(GT.good_of_firstBad (K:=kidsI l0) hgood (i:=i.toNat) (by rw [kidsI_at];exact hz)).1;show ((z.toNat:Nat):Int) = z
 omega
theorem check_calls (A0:Option Addr) (c0:Nat) (l0:List (S40)) (a1:Int) (w:World) (hr0:Kd.C k40 w A0 l0.length l0) (hc0:l0.length≤c0) (hlen:l0.length≤1000000) (hsum:((kidsI l0).map List.length).sum≤1000000)
  (h0:0≤a1) (h1:a1 < (l0.length:Int)) (hgood:GT.firstBad (kidsI l0) = none) (k:Nat) (o:List Int) (ho:graph_order.f k l0 a1 = some o) (r1 r2:Int) (hr:GT.checkG (GT.toG (kidsI l0)) (decide ((o.length:Int) < (l0.length:Int))) a1.toNat = (r1,r2)) :
  Calls Tryd.prog 33 #[.agg #[.slice A0 l0.length c0,.int .i64 a1]] w fun e w' => e = .returned (.tuple #[.int .i64 r1,.int .i64 r2])∧Below w.heap.size w w':=by
 have HR:=Lib.hid hr0;have HS:=Lib.hid hsum;have HG:=Lib.hid hgood;have HO:=Lib.hid ho;have HZ:=Lib.hid hr;clear hr;have hrf:refsZ (kidsI l0) = -1:=by unfold refsZ;rw [hgood]
 have HRF:=Lib.hid hrf;clear hr0 hsum hgood ho hrf;have t0:decide (a1 < 0) = false:=decide_eq_false (by omega);have t1:decide ((l0.length:Int)≤a1) = false:=decide_eq_false (by omega);go_enter Tryd.func33,Tryd.ntmps33;go_wp2_with (fail)
 have hal:Below w.heap.size w (w.alloc (.cells #[.slice A0 l0.length c0,.int .i64 a1] 27)):=(Below.refl _ _).alloc (Nat.le_refl _) _;refine (refs_calls A0 c0 l0 a1 _ hlen HS.out (Kd.C_below HR.out hal)).mono ?_;rintro e w1 ⟨rfl,hb1⟩;rw [HRF.out];have HB1:=Lib.hid (below_step hal hb1);have HX1:Hid (SBox w1 w.heap.size A0 l0.length c0 a1):=Lib.hid ((hb1.block w.heap.size (blk_lt (heap_alloc_new w _))).trans (heap_alloc_new w _));have q0:w1.cell? ⟨w.heap.size,0,none⟩ = some (.slice A0 l0.length c0):=(blk_cell HX1.out 0).trans rfl;have q1:w1.cell? ⟨w.heap.size,1,none⟩ = some (.int .i64 a1):=(blk_cell HX1.out 1).trans rfl;clear hb1 hal;go_upto_if 31 with (fail)
 go_region_held3 (fun w' => w'.cell? ⟨w.heap.size,0,none⟩ = some (.slice A0 l0.length c0)∧w'.cell? ⟨w.heap.size,1,none⟩ = some (.int .i64 a1)) (go_keep)
  ((go_at_call 69;refine (graph_order.calls k A0 c0 l0 a1 o _ (by repeat (first | exact (Kd.C_below HR.out HB1.out) | (with_reducible refine Kd.C_alloc ?_ _) | (with_reducible refine Kd.C_drewN ?_ _) | (with_reducible refine Kd.C_drew ?_))) hc0 HO.out).mono ?_;rintro e w2 ⟨v2,rfl,hR2,hb2⟩;obtain ⟨A2,c2,rfl⟩:=Kd.R_slice hR2;clear hR2;have q0b:w2.cell? ⟨w.heap.size,0,none⟩ = some (.slice A0 l0.length c0):=(hb2.cell (World.block_lt_of_cell? w1 _ q0)).trans q0;have q1b:w2.cell? ⟨w.heap.size,1,none⟩ = some (.int .i64 a1):=(hb2.cell (World.block_lt_of_cell? w1 _ q1)).trans q1;have HB2:=Lib.hid (below_step (by repeat (first | (with_reducible first | exact HB1.out | apply pw_below_drewN | apply below_drew1) | exact HB1.out)) hb2);have HX2:Hid (SBox w2 w.heap.size A0 l0.length c0 a1):=Lib.hid ((hb2.block w.heap.size (blk_lt HX1.out)).trans HX1.out);clear hb2))
 rename_i hS;clear hS q0 q1;go_upto_if 31 with (fail)
 go_cut [1] (fun s1 wx => s1 = .pointer (some ⟨w.heap.size,0,none⟩)∧Aside0 (SBox wx w.heap.size A0 l0.length c0 a1)∧Aside0 (Below w.heap.size w wx)∧Aside0 ((if decide ((o.length:Int) < (l0.length:Int)) = true then GT.firstCyc (GT.toG (kidsI l0)) else none) = none))
 case first =>
  by_cases hsh:o.length < l0.length
  ·have t2:decide (o.length < l0.length) = true:=decide_eq_true hsh;rw [t2];have t3:decide ((o.length:Int) < (l0.length:Int)) = true:=decide_eq_true (by omega);have hGl:(GT.toG (kidsI l0)).length = l0.length:=by rw [GT.length_toG,kids_len]
   have HGL:=Lib.hid hGl;have HT:=Lib.hid t3;clear q1b hGl t3;go_wp2_with (fail)
   go_loopg [35] l0.length (fun kq v35 wr => ∃ i:Int,v35 = .int .i64 i∧0≤i∧i+kq = l0.length∧Aside0 (GT.scan (GT.cycAt (GT.toG (kidsI l0))) kq i.toNat = GT.firstCyc (GT.toG (kidsI l0)))∧Aside0 (SBox wr w.heap.size A0 l0.length c0 a1)∧Aside0 (Below w.heap.size w wr))
   case atStart => exact ⟨0,rfl,by omega,by omega,⟨by unfold GT.firstCyc;rw [HGL.out];rfl⟩,⟨HX2.out⟩,⟨HB2.out⟩⟩
   case round =>
    obtain ⟨i,rfl,hi0,hik,hsc,hbx,hbel⟩:=hrel;by_cases hlt:i < (l0.length:Int)
    ·have t4:decide (i < (l0.length:Int)) = true:=decide_eq_true hlt;obtain ⟨ad,A1,c1,A2',c2',A3,c3,e,hx0,hx1,hx2,hx3,hl1,hi1,hl2,hi2,hl3,hi3⟩:=at_T40 (Kd.C_below HR.out hbel.out) i hi0 hlt;cases e
     have HI3:=Lib.hid hi3;clear hi1 hi2 hi3 hl1 hl2;have c0':wr.cell? ⟨w.heap.size,0,none⟩ = some (.slice (some ad) l0.length c0):=(blk_cell hbx.out 0).trans rfl;have c1':wr.cell? ⟨w.heap.size,1,none⟩ = some (.int .i64 a1):=(blk_cell hbx.out 1).trans rfl;obtain ⟨gk,rfl⟩:∃ g,gk = g+1:=⟨gk - 1,by omega⟩;have HKL:=Lib.hid (show slices_Clone_int_int.f ((rd_T40 l0 i).f3) = some ((rd_T40 l0 i).f3) from by
      unfold slices_Clone_int_int.f
      rw [if_pos (by have:=kid_len l0 HS.out i;omega)])
     go_wp2_with (fail)
     have hszr:=hbel.out.size;have HBr:=Lib.hid (hbel.out.alloc hszr (.cells #[.int .i64 (rd_T40 l0 i).f0,.slice A1 (rd_T40 l0 i).f1.length c1,.slice A2' (rd_T40 l0 i).f2.length c2',.slice A3 (rd_T40 l0 i).f3.length c3] 40));have HNr:=Lib.hid (heap_alloc_new wr (.cells #[.int .i64 (rd_T40 l0 i).f0,.slice A1 (rd_T40 l0 i).f1.length c1,.slice A2' (rd_T40 l0 i).f2.length c2',.slice A3 (rd_T40 l0 i).f3.length c3] 40));have HXr:=Lib.hid (blk_alloc hbx.out (.cells #[.int .i64 (rd_T40 l0 i).f0,.slice A1 (rd_T40 l0 i).f1.length c1,.slice A2' (rd_T40 l0 i).f2.length c2',.slice A3 (rd_T40 l0 i).f3.length c3] 40));have HC5:=Lib.hid ((Below.refl wr.heap.size wr).alloc (Nat.le_refl _) (.cells #[.int .i64 (rd_T40 l0 i).f0,.slice A1 (rd_T40 l0 i).f1.length c1,.slice A2' (rd_T40 l0 i).f2.length c2',.slice A3 (rd_T40 l0 i).f3.length c3] 40));have hbsz:=blk_lt hbx.out;have hkid:intsOf (GT.kids (GT.toG (kidsI l0)) i.toNat) = (rd_T40 l0 i).f3:=kids_ints HG.out i;have HKI:=Lib.hid hkid;have HKB:Hid (∀ x ∈ GT.kids (GT.toG (kidsI l0)) i.toNat,x < l0.length):=Lib.hid (fun x hx => by
      have:=GT.wf_of_firstBad HG.out i.toNat x hx;rw [HGL.out] at this;exact this)
     have HKC:Hid ((GT.kids (GT.toG (kidsI l0)) i.toNat).length≤1000000):=Lib.hid (by
      have:=kid_len l0 HS.out i;rw [← HKI.out,intsOf_len] at this;exact this)
     clear hkid;clear c0' c1' hx0 hx1 hx2 hx3;generalize wr.alloc (.cells #[.int .i64 (rd_T40 l0 i).f0,.slice A1 (rd_T40 l0 i).f1.length c1,.slice A2' (rd_T40 l0 i).f2.length c2',.slice A3 (rd_T40 l0 i).f3.length c3] 40) = W5 at HBr HNr HXr HC5 ⊢;have z0:W5.cell? ⟨w.heap.size,0,none⟩ = some (.slice (some ad) l0.length c0):=(blk_cell HXr.out 0).trans rfl;have z1:W5.cell? ⟨w.heap.size,1,none⟩ = some (.int .i64 a1):=(blk_cell HXr.out 1).trans rfl;have z3:W5.cell? ⟨wr.heap.size,3,none⟩ = some (.slice A3 (rd_T40 l0 i).f3.length c3):=(blk_cell HNr.out 3).trans rfl;have hsz5:wr.heap.size < W5.heap.size:=blk_lt HNr.out;have hii:i = ((i.toNat:Nat):Int):=by omega
     have HII:=Lib.hid hii;have hiw:i.toNat≤9223372036854775807:=by omega
     clear hii;go_region_held3 (fun w' => w'.cell? ⟨w.heap.size,0,none⟩ = some (.slice (some ad) l0.length c0)∧w'.cell? ⟨w.heap.size,1,none⟩ = some (.int .i64 a1)∧w'.cell? ⟨wr.heap.size,3,none⟩ = some (.slice A3 (rd_T40 l0 i).f3.length c3)) (go_keep)
      (first
       | ((go_at_call 71;refine (slices_Clone_int_int.calls A3 c3 _ _ _ (by repeat (first | exact (Kd.C_below HI3.out HC5.out) | (with_reducible refine Kd.C_alloc ?_ _) | (with_reducible refine Kd.C_drewN ?_ _) | (with_reducible refine Kd.C_drew ?_))) hl3 HKL.out).mono ?_;rintro e w4 ⟨v4,rfl,hR4,hb4⟩;have z0b:w4.cell? ⟨w.heap.size,0,none⟩ = some (.slice (some ad) l0.length c0):=(hb4.cell (World.block_lt_of_cell? W5 _ z0)).trans z0;have z1b:w4.cell? ⟨w.heap.size,1,none⟩ = some (.int .i64 a1):=(hb4.cell (World.block_lt_of_cell? W5 _ z1)).trans z1;have z3b:w4.cell? ⟨wr.heap.size,3,none⟩ = some (.slice A3 (rd_T40 l0 i).f3.length c3):=(hb4.cell (World.block_lt_of_cell? W5 _ z3)).trans z3;have HB4:=Lib.hid (below_step (by repeat (first | (with_reducible first | exact HBr.out | apply pw_below_drewN | apply below_drew1) | exact HBr.out)) hb4);have HX4:Hid (SBox w4 w.heap.size (some ad) l0.length c0 a1):=Lib.hid ((hb4.block w.heap.size (blk_lt HXr.out)).trans HXr.out);have hown4:=own_base (Kw.own_of_R hR4);have hv4:∀ g,v4.ownBlock = some g→W5.heap.size≤g:=fun g hg => hown4 g hg;have HV4:=Lib.hid hv4;have HR4:=Lib.hid (Kd.R_lower hR4 (show w.heap.size≤_ from HBr.out.size));clear hb4 hR4 hown4 hv4))
       | ((go_at_call 70;refine (reach_calls (some ad) c0 l0 a1 w _ (by repeat (first | (with_reducible first | exact HB4.out | apply pw_below_drewN | apply below_drew1) | exact HB4.out)) HR.out (fun _ => True) v4 (GT.kids (GT.toG (kidsI l0)) i.toNat) (by rw [HKI.out];exact HR4.out) HG.out HKB.out hlen HS.out HKC.out).mono ?_;rintro e w5 ⟨b,m,met,rfl,hb,hset,_,_,hmem,hg⟩;have n0:some w.heap.size≠v4.ownBlock:=(fun h => by have:=HV4.out _ h.symm;omega);have n1:some wr.heap.size≠v4.ownBlock:=(fun h => by have:=HV4.out _ h.symm;omega);have z0c:w5.cell? ⟨w.heap.size,0,none⟩ = some (.slice (some ad) l0.length c0):=hg.cell z0b n0;have z1c:w5.cell? ⟨w.heap.size,1,none⟩ = some (.int .i64 a1):=hg.cell z1b n0;have z3c:w5.cell? ⟨wr.heap.size,3,none⟩ = some (.slice A3 (rd_T40 l0 i).f3.length c3):=hg.cell z3b n1;have HX6:Hid (SBox w5 w.heap.size (some ad) l0.length c0 a1):=Lib.hid ((hg.block w.heap.size (by have:=blk_lt HX4.out;simpa using this) n0).trans HX4.out);have HB6:=Lib.hid (Kw.grown_below (by repeat (first | (with_reducible first | exact HB4.out | apply pw_below_drewN | apply below_drew1) | exact HB4.out)) hg (fun g h => by have:=HV4.out g h;omega));have HM6:=Lib.hid hmem;have hlk:∀ kk,(Instr.lookup 125 (.map (some b)) (.int .i64 i) false).run Tryd.prog (w5.drewN kk) = .ok (.bool (decide (i.toNat ∈ met))) (w5.drewN kk):=(fun kk => by have h_:=(hset.drewN kk).look hiw;rw [← HII.out] at h_;exact h_);have hlk0:(Instr.lookup 125 (.map (some b)) (.int .i64 i) false).run Tryd.prog w5 = .ok (.bool (decide (i.toNat ∈ met))) w5:=(by have h_:=hset.look hiw;rw [← HII.out] at h_;exact h_);have hlk1:(Instr.lookup 125 (.map (some b)) (.int .i64 i) false).run Tryd.prog w5.drew = .ok (.bool (decide (i.toNat ∈ met))) w5.drew:=(by have h_:=hset.drew.look hiw;rw [← HII.out] at h_;exact h_);clear hg hmem hb hset n0 n1)))
     rename_i hS9;clear hS9 hlk hlk0 hlk1;have hmi:i.toNat ∈ met↔GT.cycAt (GT.toG (kidsI l0)) i.toNat = true:=by
      rw [HM6.out,← GT.mem_reachS (GT.wf_of_firstBad HG.out) (fun x hx => by rw [HGL.out];exact HKB.out x hx) (by rw [GT.edges_toG];have h1:=HS.out;have h2:=HKC.out;omega)];unfold GT.cycAt
      simp
     have hs2:=hsc.out;rw [GT.scan] at hs2;have HSC:=Lib.hid hs2;by_cases hin:i.toNat ∈ met
     ·have hd:decide (i.toNat ∈ met) = true:=decide_eq_true hin;have HL:=Lib.hid (hmi.1 hin);clear hs2 hmi;go_wp2_with (fail)
      go_ret2
      have hz:=HZ.out;unfold GT.checkG at hz
      rw [HT.out,if_pos rfl,← HSC.out,if_pos HL.out] at hz;simp only [Prod.mk.injEq] at hz;obtain ⟨rfl,rfl⟩:=hz;exact ⟨by show Ending.returned (.tuple #[.int .i64 14,.int .i64 i]) = _;rw [← HII.out],HB6.out⟩
     ·have hd:decide (i.toNat ∈ met) = false:=decide_eq_false hin;have hl:GT.cycAt (GT.toG (kidsI l0)) i.toNat = false:=by
       cases h:GT.cycAt (GT.toG (kidsI l0)) i.toNat with
       | false => rfl
       | true => exact absurd (hmi.2 h) hin
      have HL:=Lib.hid hl;clear hs2 hmi hl;go_wp2_with (fail)
      go_roundg gk
      case measure => omega
      case rel => exact ⟨i+1,rfl,by omega,by omega,⟨by rw [← HSC.out,HL.out,show (i+1).toNat = i.toNat+1 by omega];rfl⟩,⟨HX6.out⟩,⟨HB6.out⟩⟩
    ·have t4:decide (i < (l0.length:Int)) = false:=decide_eq_false hlt;go_wp2_with (fail)
     go_meet
     exact ⟨rfl,hbx,hbel,⟨by rw [HT.out,if_pos rfl,← hsc.out,show gk = 0 by omega];rfl⟩⟩
  ·have t2:decide (o.length < l0.length) = false:=decide_eq_false hsh;rw [t2];have t3:decide ((o.length:Int) < (l0.length:Int)) = false:=decide_eq_false (by omega);have HT:=Lib.hid t3;clear t3;go_wp2_with (fail)
   go_meet
   exact ⟨rfl,⟨HX2.out⟩,⟨HB2.out⟩,⟨by rw [HT.out];rfl⟩⟩
 case rest =>
  obtain ⟨rfl,hbx,hbel,hcyc⟩:=hcut;have c0':wc.cell? ⟨w.heap.size,0,none⟩ = some (.slice A0 l0.length c0):=(blk_cell hbx.out 0).trans rfl;have c1':wc.cell? ⟨w.heap.size,1,none⟩ = some (.int .i64 a1):=(blk_cell hbx.out 1).trans rfl;clear q0b q1b HX2 HB2 HB1 HX1;have hsz:=hbel.out.size;have hall:Below w.heap.size w (wc.alloc (.cells #[.int .i64 a1] 3)):=hbel.out.alloc hsz _;have hint:intsOf [a1.toNat] = [a1]:=by unfold intsOf;simp;omega
  have hown:Kd.R (Kd.int .i64) 3 (wc.alloc (.cells #[.int .i64 a1] 3)) w.heap.size (fun _ => True) (.slice (some ⟨wc.heap.size,0,none⟩) 1 1) (intsOf [a1.toNat]):=by
   rw [hint];exact Kw.R_of_own ⟨rfl,.inr ⟨wc.heap.size,1,#[.int .i64 a1],rfl,hsz,heap_alloc_new wc _,Nat.le_refl _,by unfold maxLen;omega,rfl,rfl⟩⟩
  have HA:=Lib.hid hall;have HO2:=Lib.hid hown;have HC:=Lib.hid hcyc.out;have HI:=Lib.hid hint;clear hall hown hcyc hint;go_wp2_with (fail)
  refine (reach_calls A0 c0 l0 a1 w _ HA.out HR.out (fun _ => True) _ [a1.toNat] HO2.out HG.out (fun x hx => by rw [List.mem_singleton] at hx;omega) hlen HS.out (by simp)).mono ?_;rintro e w3 ⟨b,m,met,rfl,hb,hset,_,_,hmem,hg⟩;have hx3:SBox w3 w.heap.size A0 l0.length c0 a1:=(hg.block w.heap.size (by have:=blk_lt hbx.out;simp;omega) (by intro h;simp [Value.ownBlock] at h;have:=blk_lt hbx.out;omega)).trans (blk_alloc hbx.out _);have c3:w3.cell? ⟨w.heap.size,0,none⟩ = some (.slice A0 l0.length c0):=(blk_cell hx3 0).trans rfl;have HB3:=Lib.hid (Kw.grown_below HA.out hg (fun g hg => by simp [Value.ownBlock] at hg;omega));have HS3:=Lib.hid hset;have HM3:=Lib.hid hmem;have hGl:(GT.toG (kidsI l0)).length = l0.length:=by rw [GT.length_toG,kids_len]
  have HGL:=Lib.hid hGl;clear hg hset hmem c0' c1' hx3 hGl;go_wp2_with (fail)
  go_loopg [57] l0.length (fun kq v57 wr => ∃ i:Int,v57 = .int .i64 i∧0≤i∧i+kq = l0.length∧Aside0 (GT.scan (GT.looseAt (GT.toG (kidsI l0)) a1.toNat) kq i.toNat = GT.firstLoose (GT.toG (kidsI l0)) a1.toNat)∧Aside0 (Set.IsSet wr b m met)∧Aside0 (Below w.heap.size w wr))
  case atStart => exact ⟨0,rfl,by omega,by omega,⟨by unfold GT.firstLoose;rw [HGL.out];rfl⟩,⟨HS3.out⟩,⟨HB3.out⟩⟩
  case round =>
   obtain ⟨i,rfl,hi0,hik,hsc,hset,hbel⟩:=hrel;by_cases hlt:i < (l0.length:Int)
   ·have t4:decide (i < (l0.length:Int)) = true:=decide_eq_true hlt;obtain ⟨gk,rfl⟩:∃ g,gk = g+1:=⟨gk - 1,by omega⟩;have hii:i = ((i.toNat:Nat):Int):=by omega
    have hmi:i.toNat ∈ met↔GT.looseAt (GT.toG (kidsI l0)) a1.toNat i.toNat = false:=by
     rw [HM3.out,← GT.mem_reachS (GT.wf_of_firstBad HG.out) (fun x hx => by rw [List.mem_singleton] at hx;rw [HGL.out];omega) (by rw [GT.edges_toG];have:=HS.out;simp;omega)];unfold GT.looseAt
     simp
    have hs2:=hsc.out;rw [GT.scan] at hs2;have HSC:=Lib.hid hs2;have HII:=Lib.hid hii;by_cases hin:i.toNat ∈ met
    ·have hd:decide (i.toNat ∈ met) = true:=decide_eq_true hin;have HL:=Lib.hid (hmi.1 hin);clear hs2 hii hmi;go_wp2_with (at_lookup;refine Set.wpList_look _ rfl _ _ rfl b m met hset.out i.toNat (by omega) i HII.out rfl rfl ?_;rw [hd])
     go_roundg gk
     case measure => omega
     case rel => exact ⟨i+1,rfl,by omega,by omega,⟨by rw [← HSC.out,HL.out,show (i+1).toNat = i.toNat+1 by omega];rfl⟩,hset,hbel⟩
    ·have hd:decide (i.toNat ∈ met) = false:=decide_eq_false hin;have hl:GT.looseAt (GT.toG (kidsI l0)) a1.toNat i.toNat = true:=by
      cases h:GT.looseAt (GT.toG (kidsI l0)) a1.toNat i.toNat with
      | true => rfl
      | false => exact absurd (hmi.2 h) hin
     have HL:=Lib.hid hl;clear hs2 hii hmi hl;go_wp2_with (at_lookup;refine Set.wpList_look _ rfl _ _ rfl b m met hset.out i.toNat (by omega) i HII.out rfl rfl ?_;rw [hd])
     go_ret2
     have hz:=HZ.out;unfold GT.checkG at hz
     rw [HC.out,← HSC.out,if_pos HL.out] at hz;simp only [Prod.mk.injEq] at hz;obtain ⟨rfl,rfl⟩:=hz;exact ⟨by show Ending.returned (.tuple #[.int .i64 15,.int .i64 i]) = _;rw [← HII.out],hbel.out⟩
   ·have t4:decide (i < (l0.length:Int)) = false:=decide_eq_false hlt;go_wp2_with (fail)
    go_ret2
    have hz:=HZ.out;unfold GT.checkG at hz
    rw [HC.out,← hsc.out,show gk = 0 by omega] at hz;simp only [GT.scan,Prod.mk.injEq] at hz;obtain ⟨rfl,rfl⟩:=hz;exact ⟨rfl,hbel.out⟩
theorem check_root (A0:Option Addr) (c0:Nat) (l0:List (S40)) (a1:Int) (w:World) (hlen:l0.length≤1000000) (h:a1 < 0 ∨ (l0.length:Int)≤a1) :
  Calls Tryd.prog 33 #[.agg #[.slice A0 l0.length c0,.int .i64 a1]] w fun e w' => e = .returned (.tuple #[.int .i64 13,.int .i64 (-1)])∧Below w.heap.size w w':=by
 by_cases h0:a1 < 0
 ·have t0:decide (a1 < 0) = true:=decide_eq_true h0;go_enter Tryd.func33,Tryd.ntmps33;go_wp2_with (fail)
  go_ret2
  exact ⟨rfl,(Below.refl _ _).alloc (Nat.le_refl _) _⟩
 ·have t0:decide (a1 < 0) = false:=decide_eq_false h0;have t1:decide ((l0.length:Int)≤a1) = true:=decide_eq_true (by omega);go_enter Tryd.func33,Tryd.ntmps33;go_wp2_with (fail)
  go_ret2
  exact ⟨rfl,(Below.refl _ _).alloc (Nat.le_refl _) _⟩
theorem check_refs (A0:Option Addr) (c0:Nat) (l0:List (S40)) (a1:Int) (w:World) (hr0:Kd.C k40 w A0 l0.length l0) (hlen:l0.length≤1000000) (hsum:((kidsI l0).map List.length).sum≤1000000)
  (h0:0≤a1) (h1:a1 < (l0.length:Int)) (i:Nat) (hbad:GT.firstBad (kidsI l0) = some i) :
  Calls Tryd.prog 33 #[.agg #[.slice A0 l0.length c0,.int .i64 a1]] w fun e w' => e = .returned (.tuple #[.int .i64 13,.int .i64 (i:Int)])∧Below w.heap.size w w':=by
 have HR:=Lib.hid hr0;have HS:=Lib.hid hsum;have hrf:refsZ (kidsI l0) = (i:Int):=by unfold refsZ;rw [hbad]
 have HRF:=Lib.hid hrf;clear hr0 hsum hrf hbad;have t0:decide (a1 < 0) = false:=decide_eq_false (by omega);have t1:decide ((l0.length:Int)≤a1) = false:=decide_eq_false (by omega);go_enter Tryd.func33,Tryd.ntmps33;go_wp2_with (fail)
 have hal:Below w.heap.size w (w.alloc (.cells #[.slice A0 l0.length c0,.int .i64 a1] 27)):=(Below.refl _ _).alloc (Nat.le_refl _) _;refine (refs_calls A0 c0 l0 a1 _ hlen HS.out (Kd.C_below HR.out hal)).mono ?_;rintro e w1 ⟨rfl,hb1⟩;rw [HRF.out];have HB1:=Lib.hid (below_step hal hb1);clear hb1 hal;go_wp2_with (fail)
 go_ret2
 exact ⟨rfl,HB1.out⟩
def graph_Check.f (k:Nat) (l0_0:List (S40)) (a0_1:Int):Option (Int × Int) :=
 if l0_0.length≤1000000∧((kidsI l0_0).map List.length).sum≤1000000 then
  (if a0_1 < 0 ∨ (l0_0.length:Int)≤a0_1 then some (13,-1)
   else match GT.firstBad (kidsI l0_0) with
    | some i => some (13,(i:Int))
    | none => (graph_order.f k l0_0 a0_1).bind fun o => some (GT.checkG (GT.toG (kidsI l0_0)) (decide ((o.length:Int) < (l0_0.length:Int))) a0_1.toNat))
 else none
theorem graph_Check.mono:∀ a0 a1 k,LeO (graph_Check.f k a0 a1) (graph_Check.f (k+1) a0 a1):=by
 intro l0_0 a0_1 k r h;unfold graph_Check.f at h ⊢
 split at h
 ·rename_i hb;rw [if_pos hb];split at h
  ·rename_i hr;rw [if_pos hr];exact h
  ·rename_i hr;rw [if_neg hr];split at h
   ·exact h
   ·obtain ⟨o,ho,h2⟩:=Option.bind_eq_some_iff.1 h;rw [graph_order.mono l0_0 a0_1 k o ho];exact h2
 ·cases h
theorem graph_Check.calls (k:Nat) (A0_0:Option Addr) (c0_0:Nat) (l0_0:List (S40)) (a0_1:Int) (r1:Int) (r2:Int) (w:World) (hr0_0:Kd.C k40 w A0_0 l0_0.length l0_0) (hc0_0:l0_0.length≤c0_0) (h:graph_Check.f k l0_0 a0_1 = some (r1,r2)) :
  Calls Tryd.prog 33 #[.agg #[.slice A0_0 l0_0.length c0_0,.int .i64 a0_1]] w fun e w' => e = .returned (.tuple #[.int .i64 r1,.int .i64 r2])∧Below w.heap.size w w':=by
 unfold graph_Check.f at h
 split at h
 ·rename_i hb;split at h
  ·rename_i hr;simp only [Option.some.injEq,Prod.mk.injEq] at h;obtain ⟨rfl,rfl⟩:=h;exact check_root A0_0 c0_0 l0_0 a0_1 w hb.1 hr
  ·rename_i hr;split at h
   ·rename_i i hi;simp only [Option.some.injEq,Prod.mk.injEq] at h;obtain ⟨rfl,rfl⟩:=h;exact check_refs A0_0 c0_0 l0_0 a0_1 w hr0_0 hb.1 hb.2 (by omega) (by omega) i hi
   ·rename_i hi;obtain ⟨o,ho,h2⟩:=Option.bind_eq_some_iff.1 h;exact check_calls A0_0 c0_0 l0_0 a0_1 w hr0_0 hc0_0 hb.1 hb.2 (by omega) (by omega) hi k o ho r1 r2 (Option.some.inj h2)
 ·cases h
end Go.Proofs.YtoigkneoaemcfaaDoor.GN
