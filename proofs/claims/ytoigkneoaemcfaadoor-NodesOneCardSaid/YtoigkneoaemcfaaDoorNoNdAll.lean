import Derived.Test.YtoigkneoaemcfaaDoorNoNdUse
import Derived.Test.YtoigkneoaemcfaaDoorNoRcGet
namespace Go.Proofs.YtoigkneoaemcfaaDoor.Nd
open Go.RowKit Go.Lib Go.Proofs.YtoigkneoaemcfaaDoorW.PrintWords Go.Proofs.YtoigkneoaemcfaaDoorW.PrintLast Go.Proofs.YtoigkneoaemcfaaDoorW.PrintMore Go.Proofs.YtoigkneoaemcfaaDoor.B Go.Proofs.YtoigkneoaemcfaaDoor.Bd Go.Proofs.YtoigkneoaemcfaaDoor.Tab Go.Proofs.YtoigkneoaemcfaaDoor.Rec
open Go.Proofs.YtoigkneoaemcfaaDoor.GN (S40 rd_T40 k40 kidsI checkP cl H)
set_option linter.unusedVariables false
set_option linter.unusedSimpArgs false
structure Nw where
  n:S40
  v1:Value
  v2:Value
  v3:Value
def Nw.vals (x:Nw):List Value:=[.int .i64 x.n.f0,x.v1,x.v2,x.v3]
def valsOf:List Nw→List Value
  | [] => []
  | x :: l => x.vals ++ valsOf l
theorem valsOf_snoc:∀ (l:List Nw) (x:Nw),valsOf (l ++ [x]) = valsOf l ++ x.vals
  | [],x => by simp [valsOf]
  | y :: l,x => by rw [List.cons_append,valsOf,valsOf,valsOf_snoc l,List.append_assoc]
theorem valsOf_len:∀ l:List Nw,(valsOf l).length = l.length * 4
  | [] => rfl
  | x :: l => by rw [valsOf,List.length_append,valsOf_len l,List.length_cons];simp [Nw.vals];omega
theorem valsOf_at:∀ (l:List Nw) (j:Nat) (x:Nw),l[j]? = some x→((valsOf l).drop (j * 4)).take 4 = x.vals
  | [],j,x,h => by simp at h
  | y :: l,0,x,h => by
    simp at h
    subst h
    rw [valsOf,Nat.zero_mul,List.drop_zero]
    rfl
  | y :: l,j+1,x,h => by
    rw [List.getElem?_cons_succ] at h
    rw [valsOf,List.drop_append,List.drop_of_length_le (by simp [Nw.vals];omega),List.nil_append,show (j+1) * 4 - y.vals.length = j * 4 by simp [Nw.vals];omega]
    exact valsOf_at l j x h
def Nw.made (w:World) (base:Nat) (x:Nw):Prop:=Made w base x.v1 x.v2 x.v3 x.n.f1 x.n.f2 x.n.f3
theorem own_ne {w:World} {base e n p T s:Nat} {v:Value} {xs:List Value} {cs:Array Value} {fz:Nat × Nat} (h:w.ownsRow base e s v n xs) (hp:w.heap[p]? = some (.cells cs T fz)) (hT:T≠e):v.ownBlock≠some p:=by
  intro hk
  rcases h.2 with ⟨hv,_⟩ | ⟨g,cap,cur,hv,_,hg,_⟩
  · rw [hv] at hk;cases hk
  · rw [hv] at hk
    simp only [Value.ownBlock,Option.some.injEq] at hk
    subst hk
    rw [hg] at hp
    injection hp with hp
    injection hp with _ h2 _
    exact hT h2.symm
theorem R_nodes {w:World} {base:Nat} {v:Value} {P:List Nw} (h:w.ownsRow base 40 4 v P.length (valsOf P)) (hm:∀ x ∈ P,x.made w base):Kd.R k40 40 w base (fun _ => True) v (P.map Nw.n):=by
  refine ⟨fun _ _ => trivial,valsOf P,by rw [List.length_map];exact h,by rw [List.length_map];exact valsOf_len P,fun j p hp => ?_⟩
  rw [List.getElem?_map] at hp
  obtain ⟨x,hx,rfl⟩:=Option.map_eq_some_iff.1 hp
  have hM:=hm x (List.mem_of_getElem? hx)
  show k40.M w base _ x.n (((valsOf P).drop (j * 4)).take 4)
  rw [valsOf_at P j x hx]
  have ha:∀ {u:Value},(∀ k,v.ownBlock = some k→u.ownBlock≠some k)→∀ k,u.ownBlock = some k→True∧some k≠v.ownBlock:=fun hu k hk => ⟨trivial,fun e => hu k e.symm hk⟩
  have r1:=Kw.R_of_own (enc:=i64V) (h1:=fun _ => rfl) hM.1
  have r2:=Kw.R_of_own (enc:=Value.string) (h1:=fun _ => rfl) hM.2.1
  have r3:=Kw.R_of_own (enc:=i64V) (h1:=fun _ => rfl) hM.2.2
  exact GN.k40_mkM w base _ x.n ⟨ha (row_apart h hM.1 (by decide)),r1.2.imp_ (fun _ _ hp => hp)⟩ ⟨ha (row_apart h hM.2.1 (by decide)),r2.2.imp_ (fun _ _ hp => hp)⟩ ⟨ha (row_apart h hM.2.2 (by decide)),r3.2.imp_ (fun _ _ hp => hp)⟩
theorem row_low {w:World} {b b' e s n:Nat} {v:Value} {xs:List Value} (h:w.ownsRow b e s v n xs) (hb:b'≤b):w.ownsRow b' e s v n xs:=by
  refine ⟨h.1,?_⟩
  rcases h.2 with h1 | ⟨g,cap,cur,h1,h2,h3⟩
  · exact .inl h1
  · exact .inr ⟨g,cap,cur,h1,Nat.le_trans hb h2,h3⟩
theorem made_low {w:World} {b b':Nat} {v1 v2 v3:Value} {l1:List Int} {l2:List ByteArray} {l3:List Int} (h:Made w b v1 v2 v3 l1 l2 l3) (hb:b'≤b):Made w b' v1 v2 v3 l1 l2 l3:=⟨row_low h.1 hb,row_low h.2.1 hb,row_low h.2.2 hb⟩
theorem row_lit {w:World} {base g e s n:Nat} {cur:Array Value} (hg:base≤g) (h:w.heap[g]? = some (.cells cur e (0,0))) (hs:cur.size = n * s) (hs1:1≤s) (hn:n≤1000):w.ownsRow base e s (.slice (some ⟨g,0,none⟩) n n) n cur.toList :=
  ⟨by rw [← hs];simp,.inr ⟨g,n,cur,rfl,hg,h,Nat.le_refl _,by unfold maxLen;omega,hs,by rw [← hs];exact List.take_of_length_le (by simp)⟩⟩
structure AS (w wr:World) (g s p:Nat) (F:Nat→Prop) (L:List ByteArray) (c:Cur.Cur) (vp:Value) (P:List Nw) (r:Int):Prop where
  mv:Mv (one g) w wr
  cur:Cur.IsC wr g c
  ok:c.ok
  tab:IsTab wr F p L
  box:wr.heap[s]? = some (.cells #[vp,.int .i64 r] 27 (0,0))
  row:wr.ownsRow w.heap.size 40 4 vp P.length (valsOf P)
  made:∀ x ∈ P,x.made wr w.heap.size
  res:SB wr (w.heap.size+1) none 0 0 0
  s0:w.heap.size+1 < s
  g0:g < w.heap.size
  lt:∀ k,F k→k < w.heap.size
  nf:¬ F g
section
variable {w wr w':World} {g s p:Nat} {F:Nat→Prop} {L:List ByteArray} {c:Cur.Cur} {vp:Value} {P:List Nw} {r:Int}
theorem AS.below (h:AS w wr g s p F L c vp P r) (hb:Below wr.heap.size wr w'):AS w w' g s p F L c vp P r :=
  ⟨h.mv.trans (Mv.of_below (S:=nil) hb) (fun _ hk => hk.elim),h.cur.below hb,h.ok,h.tab.below hb,blk_below h.box hb,row_mv h.row (Mv.of_below (S:=nil) hb) (fun _ _ h => h),fun x hx => (h.made x hx).below hb,h.res.below hb,h.s0,h.g0,h.lt,h.nf⟩
theorem AS.turn (h:AS w wr g s p F L c vp P r) {c':Cur.Cur} (hc:Cur.IsC w' g c') (ok:c'.ok) (m:Mv (one g) wr w'):AS w w' g s p F L c' vp P r :=
  ⟨h.mv.trans m (fun k hk => .inl hk),hc,ok,h.tab.mv m (fun k hk e => h.nf (by have e2:k = g:=e;rwa [← e2])),m.keep h.box (fun e => by have e2:s = g:=e;have:=h.s0;have:=h.g0;omega),row_mv h.row m (fun k hk e => by have e2:k = g:=e;have:=(h.row.lt k hk).1;have:=h.g0;omega),fun x hx => (h.made x hx).mv m ((h.made x hx).away (fun k hk => by obtain rfl:k = g:=hk;exact h.g0)),m.keep h.res (fun e => by have e2:w.heap.size+1 = g:=e;have:=h.g0;omega),h.s0,h.g0,h.lt,h.nf⟩
theorem AS.push (h:AS w wr g s p F L c vp P r) {x:Nw} {v':Value} {ob:Obj} {w2:World} (hx:x.made wr w.heap.size) (hg:(wr.alloc ob).grownBy w2 vp.ownBlock) (ho:w2.ownsRow w.heap.size 40 4 v' (P.length+1) (valsOf P ++ x.vals)) :
    AS w (w2.setCell ⟨s,0,none⟩ v') g s p F L c v' (P ++ [x]) r:=by
  have hv:∀ k,vp.ownBlock = some k→w.heap.size≤k∧k≠s:=fun k hk => ⟨(h.row.lt k hk).1,fun e => own_ne h.row h.box (by decide) (by rw [hk,e])⟩
  have m1:Mv (fun j => vp.ownBlock = some j) wr w2:=((Mv.refl (fun j => vp.ownBlock = some j) wr).alloc _).step (mv_grown hg)
  have m2:Mv (fun j => vp.ownBlock = some j ∨ j = s) wr (w2.setCell ⟨s,0,none⟩ v'):=((Mv.refl (fun j => vp.ownBlock = some j ∨ j = s) wr).trans m1 (fun k hk => .inl (.inl hk))).setCell (p:=⟨s,0,none⟩) (.inl (.inr rfl)) v'
  have hbx:=m1.keep h.box (fun e => (hv s e).2 rfl)
  have hs:=h.s0
  have hg0:=h.g0
  have hmade:∀ y:Nw,y.made wr w.heap.size→y.made (w2.setCell ⟨s,0,none⟩ v') w.heap.size:=fun y hy => by
    refine Made.mv hy m2 (fun k hk => ?_)
    rcases hk with hk | hk
    · exact ⟨row_apart h.row hy.1 (by decide) k hk,row_apart h.row hy.2.1 (by decide) k hk,row_apart h.row hy.2.2 (by decide) k hk⟩
    · subst hk
      exact ⟨Lib.ownBlock_ne hy.1 h.box (by decide),Lib.ownBlock_ne hy.2.1 h.box (by decide),Lib.ownBlock_ne hy.2.2 h.box (by decide)⟩
  refine ⟨h.mv.trans m2 (fun k hk => .inr ?_),h.cur.mv m2 (fun e => ?_),h.ok,h.tab.mv m2 (fun k hk e => ?_),blk_put hbx 0 v' rfl,?_,fun y hy => ?_,m2.keep h.res (fun e => ?_),hs,hg0,h.lt,h.nf⟩
  · rcases hk with hk | hk
    · exact (hv k hk).1
    · omega
  · rcases e with e | e
    · have:=(hv g e).1;omega
    · omega
  · have:=h.lt k hk
    rcases e with e | e
    · have:=(hv k e).1;omega
    · omega
  · rw [List.length_append,List.length_singleton,valsOf_snoc]
    exact row_mv ho ((Mv.refl (one s) w2).setCell (p:=⟨s,0,none⟩) (.inl rfl) v') (fun k hk e => by obtain rfl:k = s:=e;exact own_ne ho hbx (by decide) hk)
  · rcases List.mem_append.1 hy with hy | hy
    · exact hmade y (h.made y hy)
    · rw [List.mem_singleton] at hy
      subst hy
      exact hmade y hx
  · rcases e with e | e
    · exact own_ne h.row h.res (by decide) e
    · omega
theorem AS.grown (h:AS w wr g s p F L c vp P r) {ob:Obj} {w2:World} (hg:(wr.alloc ob).grownBy w2 vp.ownBlock):w2.cell? ⟨s,0,none⟩ = some vp∧w2.frozen? ⟨s,0,none⟩ = false:=by
  have m1:Mv (fun j => vp.ownBlock = some j) wr w2:=((Mv.refl (fun j => vp.ownBlock = some j) wr).alloc _).step (mv_grown hg)
  have hbx:=m1.keep h.box (fun e => own_ne h.row h.box (by decide) e)
  exact ⟨(blk_cell hbx 0).trans rfl,blk_frozen hbx 0⟩
end
theorem addr_zero (g j:Nat):(⟨g,0,none⟩:Addr).add j = ⟨g,j,none⟩:=by
  simp only [Addr.add,Nat.zero_add]
  split <;> simp_all
theorem cells_new (w:World) (cs:List Value) (T:TypeId):∀ (j:Nat) (u:Value),cs[j]? = some u→(w.alloc (.cells cs.toArray T)).cell? ((⟨w.heap.size,0,none⟩:Addr).add j) = some u:=fun j u h => by
  rw [addr_zero]
  exact (blk_cell (heap_alloc_new w _) j).trans (by simpa using h)
section
variable (F:Nat→Prop) (g p:Nat) (L:List ByteArray) (b:ByteArray) (l0 l1 l2 l3 l4:Int) (w:World)
def AllPost (e:Ending) (w':World):Prop:=∃ v,e = .returned (.agg #[v,.int .i64 ((cntN b l1).1 - 1)])∧Cur.IsC w' g (endN (runN b L l1 l2).1)∧Kd.R k40 40 w' w.heap.size (fun _ => True) v (runN b L l1 l2).2∧Mv (one g) w w'
set_option maxHeartbeats 8000000 in
set_option maxRecDepth 100000 in
theorem all_calls (hC:Cur.IsC w g (Cur.new b)) (hb:b.size≤140737488351232) (hT:IsTab w F p L) (hg:¬ F g) (hl1:0≤l1) (hl1b:l1≤9223372036854775807) (hl2:0≤l2) (hl2b:l2≤16777216) :
    Calls Tryd.prog 32 #[.pointer (some ⟨g,0,none⟩),.pointer (some ⟨p,0,none⟩),.agg #[.int .i64 l0,.int .i64 l1,.int .i64 l2,.int .i64 l3,.int .i64 l4]] w fun e w' => AllPost g L b l1 l2 w e w':=by
  obtain ⟨i0,hi0,hz0,hz1,hz2⟩:=info_parts (show (Tryd.prog.info? 40).map (fun i => (i.zero,i.size,i.bytes)) = some (some (.agg #[.int .i64 0,.slice none 0 0,.slice none 0 0,.slice none 0 0]),4,80) from by kernel_rfl)
  have HC:=Lib.hid hC
  have HT:=Lib.hid hT
  have HLT:=Lib.hid hT.lt
  have hgw:=hC.lt
  have hu1:IntKind.u64.wrap l1 = l1:=by rw [VM.u64_wrap];omega
  clear hC hT
  go_enter Tryd.func32,Tryd.ntmps32
  go_upto_region 1 with (fail)
  have hz1:SB ((w.alloc (.cells #[.int .i64 l0,.int .i64 l1,.int .i64 l2,.int .i64 l3,.int .i64 l4] 23)).alloc (.cells #[.slice none 0 0,.int .i64 0] 27)) (w.heap.size+1) none 0 0 0:=by
    have:=heap_alloc_new (w.alloc (.cells #[.int .i64 l0,.int .i64 l1,.int .i64 l2,.int .i64 l3,.int .i64 l4] 23)) (.cells #[.slice none 0 0,.int .i64 0] 27)
    rwa [show (w.alloc (.cells #[.int .i64 l0,.int .i64 l1,.int .i64 l2,.int .i64 l3,.int .i64 l4] 23)).heap.size = w.heap.size+1 by simp] at this
  have hl0:=blk_alloc (heap_alloc_new w (.cells #[.int .i64 l0,.int .i64 l1,.int .i64 l2,.int .i64 l3,.int .i64 l4] 23)) (.cells #[.slice none 0 0,.int .i64 0] 27)
  have hb1:Below w.heap.size w ((w.alloc (.cells #[.int .i64 l0,.int .i64 l1,.int .i64 l2,.int .i64 l3,.int .i64 l4] 23)).alloc (.cells #[.slice none 0 0,.int .i64 0] 27)):=((Below.refl _ w).alloc (Nat.le_refl _) _).alloc (by simp) _
  generalize (w.alloc (.cells #[.int .i64 l0,.int .i64 l1,.int .i64 l2,.int .i64 l3,.int .i64 l4] 23)).alloc (.cells #[.slice none 0 0,.int .i64 0] 27) = w1 at *
  have HZ1:=Lib.hid hz1
  have HL1:=Lib.hid hl0
  have HB1:=Lib.hid hb1
  have HC1:=Lib.hid (HC.out.below hb1)
  have y1:w1.cell? ⟨w.heap.size,1,none⟩ = some (.int .i64 l1):=(blk_cell hl0 1).trans rfl
  clear hz1 hl0 hb1
  go_wp2_with (fail)
  try rw [hu1]
  refine (Cur.uint_calls g (Cur.new b) l1 _ HC1.out (Cur.new_ok hb) hl1).mono ?_
  rintro e w2 ⟨rfl,hC2,hM2⟩
  have HM2:=Lib.hid ((Mv.of_below (S:=one g) HB1.out).trans hM2 (fun k hk => .inl hk))
  have HZ2:=Lib.hid (show SB w2 (w.heap.size+1) none 0 0 0 from hM2.keep HZ1.out (fun e => by have e2:w.heap.size+1 = g:=e;omega))
  have HL2:=Lib.hid (show w2.heap[w.heap.size]? = some (.cells #[.int .i64 l0,.int .i64 l1,.int .i64 l2,.int .i64 l3,.int .i64 l4] 23 (0,0)) from hM2.keep HL1.out (fun e => by have e2:w.heap.size = g:=e;omega))
  have HC2:=Lib.hid hC2
  have HT2:=Lib.hid (HT.out.mv HM2.out (fun k hk e => hg (by have e2:k = g:=e;rwa [← e2])))
  have hok2:=Cur.uint_ok (Cur.new_ok hb) l1
  have hrg:=Cur.uint_range (c:=Cur.new b) l1
  have HCN:=Lib.hid (show cntN b l1 = (((Cur.new b).uint l1).1,if ((Cur.new b).uint l1).1 = 0 then ((Cur.new b).uint l1).2.fail 13 else ((Cur.new b).uint l1).2) from rfl)
  clear hC2 hM2 y1
  generalize ((Cur.new b).uint l1).2 = cu at *
  generalize ((Cur.new b).uint l1).1 = cn at *
  obtain ⟨nn,rfl⟩:∃ n:Nat,cn = (n:Int):=⟨cn.toNat,by omega⟩
  obtain ⟨c3,hc3⟩:∃ c3,c3 = if (nn:Int) = 0 then cu.fail 13 else cu:=⟨_,rfl⟩
  rw [← hc3] at HCN
  have HC3:=Lib.hid hc3
  clear hc3
  go_upto_if 18 with (fail)
  go_cut [] (fun wx => Aside0 (Mv (one g) w wx)∧Aside0 (Cur.IsC wx g c3)∧Aside0 c3.ok∧Aside0 (SB wx (w.heap.size+1) none 0 0 0)∧Aside0 (wx.heap[w.heap.size]? = some (.cells #[.int .i64 l0,.int .i64 l1,.int .i64 l2,.int .i64 l3,.int .i64 l4] 23 (0,0)))∧Aside0 (IsTab wx F p L))
  case first =>
    by_cases h0:(nn:Int) = 0
    · have t18:((nn:Int) == 0) = true:=by simpa using h0
      have H0:=Lib.hid h0
      clear h0
      go_wp2_with (fail)
      refine (Cur.fail_calls g cu 13 _ HC2.out).mono ?_
      rintro e w3 ⟨rfl,hC3,hM3⟩
      have HC3':=Lib.hid hC3
      have HM3:=Lib.hid hM3
      clear hC3 hM3
      go_wp2_with (fail)
      go_meet
      have e3:c3 = cu.fail 13:=by rw [HC3.out,if_pos H0.out]
      refine ⟨⟨HM2.out.trans HM3.out (fun k hk => .inl hk)⟩,⟨by rw [e3];exact HC3'.out⟩,⟨by rw [e3];exact Cur.fail_ok hok2 13⟩,⟨HM3.out.keep HZ2.out (fun e => by have e2:w.heap.size+1 = g:=e;omega)⟩,⟨HM3.out.keep HL2.out (fun e => by have e2:w.heap.size = g:=e;omega)⟩,⟨HT2.out.mv HM3.out (fun k hk e => hg (by have e2:k = g:=e;rwa [← e2]))⟩⟩
    · have t18:((nn:Int) == 0) = false:=by simpa using h0
      have H0:=Lib.hid h0
      clear h0
      go_wp2_with (fail)
      go_meet
      have e3:c3 = cu:=by rw [HC3.out,if_neg H0.out]
      exact ⟨⟨HM2.out⟩,⟨by rw [e3];exact HC2.out⟩,⟨by rw [e3];exact hok2⟩,⟨HZ2.out⟩,⟨HL2.out⟩,⟨HT2.out⟩⟩
  case rest =>
  obtain ⟨hM4,hC4,hok4,hZ4,hL4,hT4⟩:=hcut
  obtain ⟨w4,hw4⟩:∃ z,z = wc:=⟨_,rfl⟩
  subst hw4
  clear HM2 HZ2 HL2 HC2 HT2 HC3 hok2 HB1 HZ1 HL1 HC1
  have hws:IntKind.i64.wrap ((nn:Int) - 1) = (nn:Int) - 1:=IntWalk.i64_in _ (by omega)
  go_upto_region 5 with (fail)
  have hA5:AS w (w4.alloc (.cells #[.slice none 0 0,.int .i64 ((nn:Int) - 1)] 27)) g w4.heap.size p F L c3 (.slice none 0 0) [] ((nn:Int) - 1) :=
    ⟨hM4.out.alloc _,hC4.out.below ((Below.refl _ _).alloc (Nat.le_refl _) _),hok4.out,hT4.out.below ((Below.refl _ _).alloc (Nat.le_refl _) _),heap_alloc_new _ _,World.ownsRow_nil _ _ _ _,(fun x hx => by cases hx),hZ4.out.below ((Below.refl _ _).alloc (Nat.le_refl _) _),blk_lt hZ4.out,hgw,HLT.out,hg⟩
  have hL5:=blk_alloc hL4.out (.cells #[.slice none 0 0,.int .i64 ((nn:Int) - 1)] 27)
  generalize w4.alloc (.cells #[.slice none 0 0,.int .i64 ((nn:Int) - 1)] 27) = w5 at *
  generalize w4.heap.size = s at *
  have A5:=Lib.hid hA5
  have y2:w5.cell? ⟨w.heap.size,2,none⟩ = some (.int .i64 l2):=(blk_cell hL5 2).trans rfl
  obtain ⟨RN,hRN⟩:∃ z,z = allN L nn 0 l2 c3 []:=⟨_,rfl⟩
  have HRN:=Lib.hid hRN.symm
  have HRUN:=Lib.hid (show runN b L l1 l2 = RN by unfold runN;rw [HCN.out,hRN,Int.toNat_natCast])
  have HCN1:=Lib.hid (show (cntN b l1).1 = (nn:Int) by rw [HCN.out])
  clear hA5 hL5 hM4 hC4 hok4 hZ4 hL4 hT4 hRN HCN
  go_upto_block 0 with (fail)
  clear y2
  go_cut [9,10,11] (fun v9 v10 v11 wx => ∃ (c:Cur.Cur) (vp:Value) (P:List Nw) (x y z:Value),v9 = x∧v10 = y∧v11 = z∧Aside0 (AS w wx g s p F L c vp P ((nn:Int) - 1))∧Aside0 ((c,P.map Nw.n) = RN))
  case first =>
    go_wp2_with (fail)
    go_loopg [9,10,11] nn (fun kq v9 v10 v11 wr => ∃ (i:Nat) (e:Int) (c:Cur.Cur) (vp:Value) (P:List Nw) (x:Value),v9 = .int .i64 e∧v10 = .int .i64 (i:Int)∧v11 = x∧i+kq = nn∧0≤e∧e≤16777216∧P.length≤i∧Aside0 (AS w wr g s p F L c vp P ((nn:Int) - 1))∧Aside0 (allN L kq i e c (P.map Nw.n) = RN))
    case atStart => exact ⟨0,l2,c3,_,[],_,rfl,rfl,rfl,by omega,hl2,hl2b,by simp,⟨A5.out⟩,⟨HRN.out⟩⟩
    case round =>
      clear A5 HRN
      obtain ⟨i,e,c,vp,P,x,rfl,rfl,rfl,hik,he0,he1,hPl,hA,hR⟩:=hrel
      obtain ⟨wo,hwo⟩:∃ z,z = wr:=⟨_,rfl⟩
      subst hwo
      by_cases hlt:(i:Int) < (nn:Int)
      · have t4:decide ((i:Int) < (nn:Int)) = true:=decide_eq_true hlt
        obtain ⟨ko,rfl⟩:∃ g,gk = g+1:=⟨gk - 1,by omega⟩
        go_wp2_with (fail)
        refine (Cur.err_calls g c _ hA.out.cur).mono ?_
        rintro e w6 ⟨rfl,hw6⟩
        subst hw6
        by_cases hc0:c.e = 0
        · have t5:(c.e == 0) = true:=by simpa using hc0
          have hkd:=getR_kids (at':=(i:Int)) (edges:=e) (L:=L) (c:=c) hA.out.ok.1
          have hst:allN L ko (i+1) (e - (getR (i:Int) e L c).2.2.2.2.length) (getR (i:Int) e L c).1 (P.map Nw.n ++ [nodeOf (getR (i:Int) e L c).2]) = RN:=by
            rw [← hR.out,allN,if_neg (by simpa using hc0)]
          have HST:=Lib.hid hst
          clear hst hR hc0
          go_wp2_with (fail)
          refine (recget_calls F g p L c (i:Int) e _ hA.out.cur hA.out.ok hA.out.tab hA.out.nf (by omega) (by omega)).mono ?_
          unfold Rec.GetPost
          obtain ⟨⟨c',k,m1,m2,m3⟩,hg⟩:∃ z,z = getR (i:Int) e L c:=⟨_,rfl⟩
          rw [← hg] at hkd HST ⊢
          clear hg
          rintro e' w6 ⟨v1,v2,v3,rfl,hC6,hok6,hM6,m6⟩
          obtain ⟨E1,f1,E2,f2,E3,f3,rfl,rfl,rfl,_⟩:=hM6.reads
          have HM6:=Lib.hid (made_low hM6 hA.out.mv.size)
          have A6:=Lib.hid (hA.out.turn hC6 hok6 m6)
          clear hC6 hok6 hM6 m6 hA
          simp only at hkd
          go_upto_region 10 with (fail)
          obtain ⟨hx,hd⟩:=NBox.new w6 k (.slice E1 m1.length f1) (.slice E2 m2.length f2) (.slice E3 m3.length f3)
          generalize w6.alloc (.cells #[.int .i64 k,.slice E1 m1.length f1,.slice E2 m2.length f2,.slice E3 m3.length f3] 40) = w7 at hx hd ⊢
          have A7:=Lib.hid (A6.out.below hd)
          have HM7:=Lib.hid (HM6.out.below hd)
          obtain ⟨x0,x1,x2,x3⟩:=hx.cells
          clear hx hd A6 HM6
          have hwk:IntKind.i64.wrap (e - (m3.length:Int)) = e - (m3.length:Int):=IntWalk.i64_in _ (by omega)
          obtain ⟨Ap,cp,hvp⟩:=row_slice A7.out.row
          subst hvp
          have b0:w7.cell? ⟨s,0,none⟩ = some (.slice Ap P.length cp):=(blk_cell A7.out.box 0).trans rfl
          go_wp2_with (first
            | (at_builtin;refine wpList_append_own_at _ rfl _ _ 25 rfl w.heap.size 40 i0 (.agg #[.int .i64 0,.slice none 0 0,.slice none 0 0,.slice none 0 0]) 4 80 Tryd.underlying25 hi0 hz0 hz1 hz2 rfl (by decide) (.slice Ap P.length cp) P.length (valsOf P) rfl (A7.out.row.alloc _) ⟨w7.heap.size,0,none⟩ 1 1 [.int .i64 k,.slice E1 m1.length f1,.slice E2 m2.length f2,.slice E3 m3.length f3] rfl rfl ?news (fun u hu => by simp at hu;rcases hu with rfl | rfl | rfl | rfl <;> rfl) (by unfold maxLen;omega) (by omega) (by have:=A7.out.mv.size;simp;omega) ?_;(case news => exact cells_new _ [.int .i64 k,.slice E1 m1.length f1,.slice E2 m2.length f2,.slice E3 m3.length f3] _);intro v8 w8 ho8 hg8 _ hl8;obtain ⟨e1,g1⟩:=A7.out.grown hg8;have HP:=Lib.hid (A7.out.push (x:=⟨⟨k,m1,m2,m3⟩,_,_,_⟩) HM7.out hg8 ho8);obtain ⟨Aq,cq,rfl⟩:=row_slice ho8;clear ho8 hg8 hl8))
          go_roundg ko
          case measure => omega
          case rel => exact ⟨i+1,e - m3.length,c',_,P ++ [⟨⟨k,m1,m2,m3⟩,_,_,_⟩],_,by first | rfl | (congr 1;omega),by first | rfl | (congr 1;omega),rfl,by omega,by omega,by omega,by rw [List.length_append,List.length_singleton];omega,⟨HP.out⟩,⟨by rw [List.map_append];exact HST.out⟩⟩
        · have t5:(c.e == 0) = false:=by simpa using hc0
          have HX:=Lib.hid (show (c,P.map Nw.n) = RN by rw [← hR.out,allN_err _ _ _ _ _ hc0])
          clear hc0 hR
          go_wp2_with (fail)
          go_meet
          exact ⟨c,vp,P,_,_,_,rfl,rfl,rfl,⟨hA.out⟩,⟨HX.out⟩⟩
      · have t4:decide ((i:Int) < (nn:Int)) = false:=decide_eq_false hlt
        obtain rfl:gk = 0:=by omega
        have HX:=Lib.hid (show (c,P.map Nw.n) = RN by rw [← hR.out];rfl)
        clear hR
        go_wp2_with (fail)
        go_meet
        exact ⟨c,vp,P,_,_,_,rfl,rfl,rfl,⟨hA.out⟩,⟨HX.out⟩⟩
  case rest =>
  clear A5 HRN
  obtain ⟨c,vp,P,x,y,z,rfl,rfl,rfl,hA,hX⟩:=hcut
  obtain ⟨wt,hwt⟩:∃ z,z = wc:=⟨_,rfl⟩
  subst hwt
  go_wp2_with (fail)
  refine (Cur.left_calls g c _ hA.out.cur hA.out.ok).mono ?_
  rintro e w6 ⟨rfl,hd6⟩
  have A6:=Lib.hid (hA.out.below hd6.below)
  clear hd6 hA
  obtain ⟨c9,hc9⟩:∃ c9,c9 = endN c:=⟨_,rfl⟩
  have HC9:=Lib.hid hc9
  clear hc9
  go_upto_if 54 with (fail)
  go_cut [] (fun wx => Aside0 (AS w wx g s p F L c9 vp P ((nn:Int) - 1))∧Aside0 True)
  case first =>
    by_cases h0:c.left > 0
    · have t18:decide (c.left > 0) = true:=decide_eq_true h0
      have H0:=Lib.hid h0
      go_wp2_with (fail)
      refine (Cur.fail_calls g c 8 _ A6.out.cur).mono ?_
      rintro e w7 ⟨rfl,hC7,hM7⟩
      have A7:=Lib.hid (A6.out.turn hC7 (Cur.fail_ok A6.out.ok 8) hM7)
      clear hC7 hM7
      go_wp2_with (fail)
      go_meet
      exact ⟨⟨by rw [HC9.out];unfold endN;rw [if_pos (by have:=H0.out;omega)];exact A7.out⟩,⟨trivial⟩⟩
    · have t18:decide (c.left > 0) = false:=decide_eq_false h0
      have H0:=Lib.hid h0
      go_wp2_with (fail)
      go_meet
      exact ⟨⟨by rw [HC9.out];unfold endN;rw [if_neg (by have:=H0.out;omega)];exact A6.out⟩,⟨trivial⟩⟩
  case rest =>
  clear A6
  obtain ⟨⟨A9⟩,_⟩:=hcut
  obtain ⟨w9,hw9⟩:∃ z,z = wc:=⟨_,rfl⟩
  subst hw9
  obtain ⟨Ap,cp,hvp⟩:=row_slice A9.row
  subst hvp
  have HA9:=Lib.hid A9
  have b0:w9.cell? ⟨s,0,none⟩ = some (.slice Ap P.length cp):=(blk_cell A9.box 0).trans rfl
  have b1:w9.cell? ⟨s,1,none⟩ = some (.int .i64 ((nn:Int) - 1)):=(blk_cell A9.box 1).trans rfl
  obtain ⟨z0,z1⟩:=A9.res.cells
  have f0:=blk_frozen A9.res 0
  have f1:=blk_frozen A9.res 1
  clear A9
  go_wp2_with (fail)
  have hp:=blk_put (blk_put HA9.out.res 0 (.slice Ap P.length cp) rfl) 1 (.int .i64 ((nn:Int) - 1)) rfl
  refine bodyPost_ret (results_cell_row rfl _ _ (w.heap.size+1) 27 #[.slice Ap P.length cp,.int .i64 ((nn:Int) - 1)] (0,0) _ rfl hp Tryd.underlying27 rfl (by kernel_rfl)) rfl ?_
  have m2:Mv (one (w.heap.size+1)) w9 ((w9.setCell ⟨w.heap.size+1,0,none⟩ (.slice Ap P.length cp)).setCell ⟨w.heap.size+1,1,none⟩ (.int .i64 ((nn:Int) - 1))):=((Mv.refl (one (w.heap.size+1)) w9).setCell (p:=⟨w.heap.size+1,0,none⟩) (.inl rfl) _).setCell (p:=⟨w.heap.size+1,1,none⟩) (.inl rfl) _
  refine ⟨_,by rw [HCN1.out],?_,?_,HA9.out.mv.trans m2 (fun k hk => .inr (by have e:k = w.heap.size+1:=hk;omega))⟩
  · rw [HRUN.out,← hX.out]
    have:=HA9.out.cur.mv m2 (fun e => by have e2:g = w.heap.size+1:=e;omega)
    rw [HC9.out] at this
    exact this
  · rw [HRUN.out,← hX.out]
    refine R_nodes (P:=P) (row_mv HA9.out.row m2 (fun k hk e => own_ne HA9.out.row HA9.out.res (by decide) (by rw [hk,show k = w.heap.size+1 from e]))) (fun y hy => Made.mv (HA9.out.made y hy) m2 (fun k hk => ?_))
    obtain rfl:k = w.heap.size+1:=hk
    have h:=HA9.out.made y hy
    exact ⟨Lib.ownBlock_ne h.1 HA9.out.res (by decide),Lib.ownBlock_ne h.2.1 HA9.out.res (by decide),Lib.ownBlock_ne h.2.2 HA9.out.res (by decide)⟩
end
end Go.Proofs.YtoigkneoaemcfaaDoor.Nd
