/- Texts of the claim, one behind the other. -/
import Derived.Test.YtoigkneoaemcfaaDoorNoNdG
import Derived.Test.YtoigkneoaemcfaaDoorNoRcPut
import Derived.Test.YtoigkneoaemcfaaDoorNoGNx4
import Derived.Test.YtoigkneoaemcfaaDoorNoTRef
import Derived.Test.YtoigkneoaemcfaaDoorNoGNx12
import Derived.Test.YtoigkneoaemcfaaDoorNoM7
import Derived.Test.YtoigkneoaemcfaaDoorNoM6
namespace Go.Proofs.YtoigkneoaemcfaaDoor.Nd
open Go.RowKit Go.Lib Go.Proofs.YtoigkneoaemcfaaDoorW.PrintWords Go.Proofs.YtoigkneoaemcfaaDoorW.PrintLast Go.Proofs.YtoigkneoaemcfaaDoorW.PrintMore Go.Proofs.YtoigkneoaemcfaaDoor.B Go.Proofs.YtoigkneoaemcfaaDoor.Bd Go.Proofs.YtoigkneoaemcfaaDoor.Tab Go.Proofs.YtoigkneoaemcfaaDoor.Rec
open Go.Proofs.YtoigkneoaemcfaaDoor.GN (S40 rd_T40 k40 kidsI checkP cl H)
set_option linter.unusedVariables false
set_option linter.unusedSimpArgs false
def SB (w:World) (g:Nat) (A:Option Addr) (n c:Nat) (r:Int):Prop:=w.heap[g]? = some (.cells #[.slice A n c,.int .i64 r] 27 (0,0))
theorem SB.below {w w':World} {g:Nat} {A:Option Addr} {n c:Nat} {r:Int} (h:SB w g A n c r) (hb:Below w.heap.size w w'):SB w' g A n c r:=(hb.block g (blk_lt h)).trans h
theorem SB.cells {w:World} {g:Nat} {A:Option Addr} {n c:Nat} {r:Int} (h:SB w g A n c r):w.cell? ⟨g,0,none⟩ = some (.slice A n c)∧w.cell? ⟨g,1,none⟩ = some (.int .i64 r):=⟨(blk_cell h 0).trans rfl,(blk_cell h 1).trans rfl⟩
theorem SB.new (w:World) (A:Option Addr) (n c:Nat) (r:Int):SB (w.alloc (.cells #[.slice A n c,.int .i64 r] 27)) w.heap.size A n c r∧Below w.heap.size w (w.alloc (.cells #[.slice A n c,.int .i64 r] 27)):=⟨heap_alloc_new w _,(Below.refl _ w).alloc (Nat.le_refl _) _⟩
theorem NBox.new (w:World) (k:Int) (v1 v2 v3:Value):NBox (w.alloc (.cells #[.int .i64 k,v1,v2,v3] 40)) w.heap.size k v1 v2 v3∧Below w.heap.size w (w.alloc (.cells #[.int .i64 k,v1,v2,v3] 40)):=⟨heap_alloc_new w _,(Below.refl _ w).alloc (Nat.le_refl _) _⟩
theorem node_at {w0 w:World} {A0:Option Addr} {l0:List (S40)} (hr:Kd.C k40 w0 A0 l0.length l0) (hb:Below w0.heap.size w0 w) {i:Nat} (hi:i < l0.length) :
    ∃ ad k B1 d1 l1 B2 d2 l2 B3 d3 l3,A0 = some ad∧l0[i] = ⟨k,l1,l2,l3⟩∧w.cell? (ad.add (i * 4)) = some (.int .i64 k)∧w.cell? ⟨(ad.add (i * 4)).block,(ad.add (i * 4)).off+1,none⟩ = some (.slice B1 l1.length d1) ∧
      w.cell? ⟨(ad.add (i * 4)).block,(ad.add (i * 4)).off+2,none⟩ = some (.slice B2 l2.length d2)∧w.cell? ⟨(ad.add (i * 4)).block,(ad.add (i * 4)).off+3,none⟩ = some (.slice B3 l3.length d3)∧In w0 B1 d1 l1 B2 d2 l2 B3 d3 l3:=by
  obtain ⟨ad,B1,d1,B2,d2,B3,d3,e,hx0,hx1,hx2,hx3,hl1,hi1,hl2,hi2,hl3,hi3⟩:=GN.at_T40 hr (i:Int) (by omega) (by omega)
  rw [Int.toNat_natCast] at hx0 hx1 hx2 hx3
  rw [GN.rdT_get hi] at *
  exact ⟨ad,l0[i].f0,B1,d1,l0[i].f1,B2,d2,l0[i].f2,B3,d3,l0[i].f3,e,rfl,(hb.cell (World.block_lt_of_cell? _ _ hx0)).trans hx0,(hb.cell (World.block_lt_of_cell? _ _ hx1)).trans hx1,(hb.cell (World.block_lt_of_cell? _ _ hx2)).trans hx2,(hb.cell (World.block_lt_of_cell? _ _ hx3)).trans hx3,⟨hi1,hl1,hi2,hl2,hi3,hl3⟩⟩
section
variable (A0:Option Addr) (c0:Nat) (l0:List (S40)) (a1:Int) (w:World)
set_option maxHeartbeats 4000000 in
set_option maxRecDepth 100000 in
theorem typed_calls (ht:∀ w',Below w.heap.size w w'→Lib.Utf8Tabs 0 1 w') (hr:Kd.C k40 w A0 l0.length l0) (hF:∀ y ∈ l0,Fit y.f1 y.f2 y.f3) (hn:l0.length≤1000000) :
    Calls Tryd.prog 37 #[.agg #[.slice A0 l0.length c0,.int .i64 a1]] w fun e w' => e = .returned (.tuple #[.int .i64 (typedE l0 0).1,.int .i64 (typedE l0 0).2])∧Below w.heap.size w w':=by
  have HT:=Lib.hid ht
  have HR:=Lib.hid hr
  have HF:=Lib.hid hF
  clear ht hr hF
  go_enter Tryd.func37,Tryd.ntmps37
  go_wp2_with (fail)
  obtain ⟨hx,hd⟩:=SB.new w A0 l0.length c0 a1
  generalize w.alloc (.cells #[.slice A0 l0.length c0,.int .i64 a1] 27) = w1 at hx hd ⊢
  have D1:=Lib.hid hd
  obtain ⟨x0,x1⟩:=hx.cells
  clear hx hd
  go_wp2_with (fail)
  clear x0 x1
  go_loopg [4,5,6,7,8,12] l0.length (fun kq v4 v5 v6 v7 v8 v12 wr => ∃ (i:Nat) (x y z u v:Value),v4 = x∧v5 = y∧v6 = z∧v7 = u∧v8 = v∧v12 = .int .i64 (i:Int)∧i+kq = l0.length∧Aside0 (typedE (l0.drop i) i = typedE l0 0)∧Aside0 (Below w.heap.size w wr))
  case atStart => exact ⟨0,_,_,_,_,_,rfl,rfl,rfl,rfl,rfl,rfl,by omega,⟨rfl⟩,⟨D1.out⟩⟩
  case round =>
    obtain ⟨i,x,y,z,u,v,rfl,rfl,rfl,rfl,rfl,rfl,hik,hT,hB⟩:=hrel
    obtain ⟨wo,hwo⟩:∃ z,z = wr:=⟨_,rfl⟩
    subst hwo
    by_cases hlt:(i:Int) < (l0.length:Int)
    · have t4:decide ((i:Int) < (l0.length:Int)) = true:=decide_eq_true hlt
      obtain ⟨ko,rfl⟩:∃ g,gk = g+1:=⟨gk - 1,by omega⟩
      obtain ⟨ad,k,B1,d1,l1,B2,d2,l2,B3,d3,l3,rfl,hnd,x0,x1,x2,x3,hin⟩:=node_at HR.out hB.out (i:=i) (by omega)
      have HE:=Lib.hid (show (if nodeE k l1 l2 l3≠0 then (nodeE k l1 l2 l3,(i:Int)) else typedE (l0.drop (i+1)) (i+1)) = typedE l0 0 by rw [← hT.out,List.drop_eq_getElem_cons (l:=l0) (i:=i) (by omega),hnd];rfl)
      have HFI:=Lib.hid (show Fit l1 l2 l3 by have:=HF.out l0[i] (List.getElem_mem _);rw [hnd] at this;exact this)
      have HIN:=Lib.hid hin
      clear hnd hin hT
      go_upto_region 4 with (fail)
      obtain ⟨hx,hd⟩:=NBox.new wo k (.slice B1 l1.length d1) (.slice B2 l2.length d2) (.slice B3 l3.length d3)
      clear x0 x1 x2 x3
      generalize wo.alloc (.cells #[.int .i64 k,.slice B1 l1.length d1,.slice B2 l2.length d2,.slice B3 l3.length d3] 40) = w2 at hx hd ⊢
      have D2:=Lib.hid (below_step hB.out hd)
      have X2:=Lib.hid hx
      obtain ⟨x0,x1,x2,x3⟩:=hx.cells
      obtain ⟨⟨m0,s1,s2,s3,ok⟩,hS⟩:∃ x,x = newS k:=⟨_,rfl⟩
      have HS:=Lib.hid hS
      clear hS hx hd
      go_wp2_with (fail)
      refine (GN.schema_New.calls k m0 s1 s2 s3 ok w2 (by rw [new_code,← HS.out])).mono ?_
      rintro e w3 ⟨v2,rfl,ho2,hb2⟩
      obtain ⟨C0,f0,rfl,hf0,hC2⟩:=Kd.R_reads ho2
      have X3:=Lib.hid (X2.out.below hb2)
      have D3:=Lib.hid (below_step D2.out hb2)
      have HC3:=Lib.hid hC2
      clear hb2 hC2 ho2 x0 x1 x2 x3
      go_upto_region 5 with (fail)
      have hn3:=heap_alloc_new w3 (.cells #[.slice C0 m0.length f0,.int .i64 s1,.int .i64 s2,.int .i64 s3] 97)
      have hb3:Below w3.heap.size w3 (w3.alloc (.cells #[.slice C0 m0.length f0,.int .i64 s1,.int .i64 s2,.int .i64 s3] 97)):=(Below.refl _ _).alloc (Nat.le_refl _) _
      generalize w3.alloc (.cells #[.slice C0 m0.length f0,.int .i64 s1,.int .i64 s2,.int .i64 s3] 97) = w4 at hn3 hb3 ⊢
      have D4:=Lib.hid (below_step D3.out hb3)
      have HC4:=Lib.hid (Kd.C_below HC3.out hb3)
      obtain ⟨x0,x1,x2,x3⟩:=(X3.out.below hb3).cells
      have y0:w4.cell? ⟨w3.heap.size,0,none⟩ = some (.slice C0 m0.length f0):=(blk_cell hn3 0).trans rfl
      have y1:w4.cell? ⟨w3.heap.size,1,none⟩ = some (.int .i64 s1):=(blk_cell hn3 1).trans rfl
      have y2:w4.cell? ⟨w3.heap.size,2,none⟩ = some (.int .i64 s2):=(blk_cell hn3 2).trans rfl
      have y3:w4.cell? ⟨w3.heap.size,3,none⟩ = some (.int .i64 s3):=(blk_cell hn3 3).trans rfl
      clear hb3 hn3
      cases ok with
      | false =>
        have hE:nodeE k l1 l2 l3 = 9:=by unfold nodeE;rw [← HS.out];simp
        have HR9:=Lib.hid (show typedE l0 0 = (9,(i:Int)) by rw [← HE.out,hE];simp)
        clear hE
        go_wp2_with (fail)
        go_ret2
        exact ⟨by rw [HR9.out];rfl,D4.out⟩
      | true =>
        have HNE:=Lib.hid (show nodeE k l1 l2 l3 = chk l1 l2 l3 m0 s1 s2 s3 by unfold nodeE;rw [← HS.out];simp)
        go_wp2_with (fail)
        have I4:=HIN.out.below D4.out
        refine (GN.field_Check.calls 9000 k B1 d1 l1 B2 d2 l2 B3 d3 l3 C0 f0 m0 s1 s2 s3 (chk l1 l2 l3 m0 s1 s2 s3) w4 (fun w' hb => HT.out w' (below_step D4.out hb)) I4.r1 I4.e1 I4.r2 I4.e2 I4.r3 I4.e3 HC4.out hf0 (fchk 9000 (Nat.le_refl _) k m0 s1 s2 s3 HFI.out)).mono ?_
        clear I4
        rintro e w5 ⟨rfl,hb5⟩
        have D5:=Lib.hid (below_step D4.out hb5)
        clear hb5 x0 x1 x2 x3 y0 y1 y2 y3
        generalize chk l1 l2 l3 m0 s1 s2 s3 = q at *
        by_cases hq:q = 0
        · have t30:(q != 0) = false:=by simpa using hq
          have HT2:=Lib.hid (show typedE (l0.drop (i+1)) (i+1) = typedE l0 0 by rw [← HE.out,HNE.out,hq];simp)
          clear hq
          go_wp2_with (fail)
          go_roundg ko
          case measure => omega
          case rel => exact ⟨i+1,_,_,_,_,_,rfl,rfl,rfl,rfl,rfl,by first | rfl | (congr 1;omega),by omega,⟨HT2.out⟩,⟨D5.out⟩⟩
        · have t30:(q != 0) = true:=bne_iff_ne.mpr hq
          have HR9:=Lib.hid (show typedE l0 0 = (q,(i:Int)) by rw [← HE.out,HNE.out,if_pos hq])
          clear hq
          go_wp2_with (fail)
          go_ret2
          exact ⟨by rw [HR9.out];rfl,D5.out⟩
    · have t4:decide ((i:Int) < (l0.length:Int)) = false:=decide_eq_false hlt
      have HR9:=Lib.hid (show typedE l0 0 = (0,0) by rw [← hT.out,List.drop_of_length_le (by omega)];rfl)
      go_wp2_with (fail)
      go_ret2
      exact ⟨by rw [HR9.out];rfl,hB.out⟩
end
end Go.Proofs.YtoigkneoaemcfaaDoor.Nd
namespace Go.Proofs.YtoigkneoaemcfaaDoor.Tab
open Go.RowKit Go.Lib Go.Proofs.YtoigkneoaemcfaaDoorW.PrintWords Go.Proofs.YtoigkneoaemcfaaDoorW.PrintLast Go.Proofs.YtoigkneoaemcfaaDoorW.PrintMore Go.Proofs.YtoigkneoaemcfaaDoor.B Go.Proofs.YtoigkneoaemcfaaDoor.Bd Go.Proofs.YtoigkneoaemcfaaDoor.GN
set_option linter.unusedVariables false
set_option linter.unusedSimpArgs false
def Has (w0 w:World) (F:Nat→Prop) (p:Nat) (l:List ByteArray):Prop:=Below w0.heap.size w0 w∧IsTab w F p l∧∀ k,F k→w0.heap.size≤k
section
variable {w0 w w':World} {F:Nat→Prop} {p:Nat} {l:List ByteArray}
theorem Has.bel (h:Has w0 w F p l):Below w0.heap.size w0 w:=h.1
theorem Has.below (h:Has w0 w F p l) (m:Below w.heap.size w w'):Has w0 w' F p l:=⟨below_step h.1 m,h.2.1.below m,h.2.2⟩
theorem Has.drawn (h:Has w0 w F p l) (m:Drawn0 w w'):Has w0 w' F p l:=h.below m.below
theorem Has.apart {S:Nat→Prop} (h:Has w0 w F p l) (m:Mv S w w') (hS:∀ k,S k→w0.heap.size≤k) (ha:∀ k,F k→¬ S k):Has w0 w' F p l :=
  ⟨((Mv.of_below (S:=S) h.1).step m).below hS,h.2.1.mv m ha,h.2.2⟩
theorem Has.lt (h:Has w0 w F p l):∀ k,F k→k < w.heap.size:=h.2.1.lt
theorem Has.new (hb:Below w0.heap.size w0 w):Calls Tryd.prog 38 #[] w fun e w' => ∃ p F,e = .returned (.pointer (some ⟨p,0,none⟩))∧Has w0 w' F p []∧(∀ k,F k→w.heap.size≤k)∧Below w.heap.size w w':=by
  refine (new_calls w).mono ?_
  rintro e w' ⟨p,F,rfl,h1,h2,h3⟩
  exact ⟨p,F,rfl,⟨below_step hb h3,h1,fun k hk => Nat.le_trans hb.size (h2 k hk)⟩,h2,h3⟩
theorem Has.intern (h:Has w0 w F p l) (s:ByteArray) (hs:s.size≤1000000000) (hl:l.length≤100000000) (ht:total l≤1000000000000000) :
    Calls Tryd.prog 46 #[.pointer (some ⟨p,0,none⟩),.string s] w fun e w' => e = .returned (.int .i64 ((Tab.intern l s).2:Int))∧∃ F',Has w0 w' F' p (Tab.intern l s).1∧Mv F w w'∧Fresh w.heap.size F F':=by
  refine (intern_calls F p l s w h.2.1 hs hl ht).mono ?_
  rintro e w' ⟨rfl,F',h1,h2,h3⟩
  refine ⟨rfl,F',⟨((Mv.of_below (S:=F) h.1).step h2).below h.2.2,h1,fun k hk => ?_⟩,h2,h3⟩
  rcases h3 k hk with h4 | h4
  · exact h.2.2 k h4
  · exact Nat.le_trans h.1.size h4
theorem Has.len (h:Has w0 w F p l):Calls Tryd.prog 27 #[.pointer (some ⟨p,0,none⟩)] w fun e w' => e = .returned (.int .i64 (l.length:Int))∧w = w':=len_calls F p l w h.2.1
theorem Has.at (h:Has w0 w F p l) (i:Int):Calls Tryd.prog 55 #[.pointer (some ⟨p,0,none⟩),.int .i64 i] w fun e w' => e = .returned (.tuple #[.string (atT l i).1,.bool (atT l i).2])∧w = w':=at_calls F p l i w h.2.1
theorem Has.put (h:Has w0 w F p l) (hl:l.length≤1000000) (ht:total l≤1000000000) :
    Calls Tryd.prog 41 #[.pointer (some ⟨p,0,none⟩)] w fun e w' => e = .returned (.string (tabB l))∧Has w0 w' F p l∧Below w.heap.size w w':=by
  refine (put_calls F p l w h.2.1 hl ht).mono ?_
  rintro e w' ⟨rfl,h1⟩
  exact ⟨rfl,h.below h1,h1⟩
def Texts (w0 w:World) (F:Nat→Prop) (v:Value) (l:List ByteArray):Prop:=w.ownsRow w0.heap.size 9 1 v l.length (l.map Value.string)∧∀ k,v.ownBlock = some k→¬ F k
theorem Texts.below {v:Value} (h:Texts w0 w F v l) (m:Below w.heap.size w w'):Texts w0 w' F v l:=⟨row_mv h.1 (Mv.of_below (S:=nil) m) (fun _ _ h => h),h.2⟩
theorem Texts.interned {F':Nat→Prop} {v:Value} (h:Texts w0 w F v l) (m:Mv F w w') (f:Fresh w.heap.size F F'):Texts w0 w' F' v l :=
  ⟨row_mv h.1 m h.2,fun k hk hf => by
    rcases f k hf with h1 | h1
    · exact h.2 k hk h1
    · have:=row_lt h.1 hk;omega⟩
theorem Texts.reads {v:Value} (h:Texts w0 w F v l):∃ A c,v = .slice A l.length c∧l.length≤c∧Kd.C Kd.string w A l.length l:=own_reads h.1
theorem Texts.nil (F:Nat→Prop) (w0 w:World):Texts w0 w F (.slice none 0 0) []:=⟨World.ownsRow_nil _ _ _ _,fun k hk => by simp [Value.ownBlock] at hk⟩
theorem Texts.rintern {v:Value} {m:List ByteArray} (hH:Has w0 w F p m) (h:Texts w0 w F v l) (s:ByteArray) (hl:l.length≤100000000) :
    Calls Tryd.prog 47 #[v,.string s] w fun e w' => ∃ v',e = .returned (.tuple #[v',.int .i64 ((Tab.intern l s).2:Int)])∧Texts w0 w' F v' (Tab.intern l s).1∧Has w0 w' F p m:=by
  have hlt:=hH.lt
  have hR:Kd.R Kd.string 9 w w0.heap.size (fun k => v.ownBlock = some k) v l:=by
    have:=Kw.R_of_own (enc:=Value.string) (h1:=fun _ => rfl) h.1
    exact ⟨fun k hk => hk,this.2.imp_ (fun _ _ hp => hp)⟩
  refine (r06_Intern.calls _ (fun k => v.ownBlock = some k) v l s _ _ w0 w hH.1 hR (intern_f l s hl (l.length+1) (Nat.le_refl _))).mono ?_
  rintro e w' ⟨v',rfl,hR',hB,hK⟩
  have hm:=mv_kept hH.1 hB hK
  refine ⟨v',rfl,⟨Kw.own_of_R (enc:=Value.string) (h1:=fun _ => rfl) hR',fun k hk hf => ?_⟩,hB,hH.2.1.mv hm (fun k hk hs => h.2 k hs hk),hH.2.2⟩
  rcases hR'.1 k hk with h1 | h1
  · exact h.2 k h1 hf
  · have:=hlt k hf;omega
end
end Go.Proofs.YtoigkneoaemcfaaDoor.Tab
namespace Go.Proofs.YtoigkneoaemcfaaDoor.Rec
open Go.RowKit Go.Lib Go.Proofs.YtoigkneoaemcfaaDoorW.PrintWords Go.Proofs.YtoigkneoaemcfaaDoorW.PrintLast Go.Proofs.YtoigkneoaemcfaaDoorW.PrintMore Go.Proofs.YtoigkneoaemcfaaDoor.B Go.Proofs.YtoigkneoaemcfaaDoor.Bd Go.Proofs.YtoigkneoaemcfaaDoor.Tab Go.Proofs.YtoigkneoaemcfaaDoor.GN
set_option linter.unusedVariables false
set_option linter.unusedSimpArgs false
def Of (v:Value):Nat→Prop:=fun k => v.ownBlock = some k
def Own (w0 w:World) (v:Value) (L:List ByteArray):Prop:=Below w0.heap.size w0 w∧w.ownsRow w0.heap.size 9 1 v L.length (L.map Value.string)
theorem rint {w0 w:World} {v:Value} {L:List ByteArray} (h:Own w0 w v L) (s:ByteArray) (hl:L.length≤100000000) :
    Calls Tryd.prog 47 #[v,.string s] w fun e w' => ∃ v',e = .returned (.tuple #[v',.int .i64 ((Tab.intern L s).2:Int)])∧Own w0 w' v' (Tab.intern L s).1∧Mv (Of v) w w'∧∀ k,Of v' k→Of v k ∨ w.heap.size≤k:=by
  have hR:Kd.R Kd.string 9 w w0.heap.size (Of v) v L:=by
    have:=Kw.R_of_own (enc:=Value.string) (h1:=fun _ => rfl) h.2
    exact ⟨fun k hk => hk,this.2.imp_ (fun _ _ hp => hp)⟩
  refine (r06_Intern.calls _ (Of v) v L s _ _ w0 w h.1 hR (intern_f L s hl (L.length+1) (Nat.le_refl _))).mono ?_
  rintro e w' ⟨v',rfl,hR',hB,hK⟩
  exact ⟨v',rfl,⟨hB,Kw.own_of_R (enc:=Value.string) (h1:=fun _ => rfl) hR'⟩,mv_kept h.1 hB hK,fun k hk => hR'.1 k hk⟩
structure Rt (w0 w wr:World) (v v':Value) (g:Nat) (L':List ByteArray) (k:Int) (v1 v2 v3:Value):Prop where
  own:Own w0 wr v' L'
  mv:Mv (Of v) w wr
  fr:∀ k,Of v' k→Of v k ∨ g < k
  box:NBox wr g k v1 v2 v3
  g0:w.heap.size≤g
  lt:∀ k,Of v k→k < w.heap.size
section
variable {w0 w wr w':World} {v v':Value} {g:Nat} {L':List ByteArray} {k:Int} {v1 v2 v3:Value}
theorem Own.below (h:Own w0 wr v' L') (hb:Below wr.heap.size wr w'):Own w0 w' v' L':=⟨below_step h.1 hb,row_mv h.2 (Mv.of_below (S:=nil) hb) (fun _ _ h => h)⟩
theorem Rt.below (h:Rt w0 w wr v v' g L' k v1 v2 v3) (hb:Below wr.heap.size wr w'):Rt w0 w w' v v' g L' k v1 v2 v3 :=
  ⟨h.own.below hb,h.mv.trans (Mv.of_below (S:=nil) hb) (fun _ hk => hk.elim),h.fr,h.box.below hb,h.g0,h.lt⟩
theorem Rt.intern (h:Rt w0 w wr v v' g L' k v1 v2 v3) (s:ByteArray) (hl:L'.length≤100000000) :
    Calls Tryd.prog 47 #[v',.string s] wr fun e w' => ∃ v'',e = .returned (.tuple #[v'',.int .i64 ((Tab.intern L' s).2:Int)])∧Rt w0 w w' v v'' g (Tab.intern L' s).1 k v1 v2 v3:=by
  refine (rint h.own s hl).mono ?_
  rintro e w' ⟨v'',rfl,h1,h2,h3⟩
  have hg:g < wr.heap.size:=blk_lt h.box
  refine ⟨v'',rfl,h1,h.mv.trans h2 (fun k hk => by rcases h.fr k hk with h4 | h4;exact .inl h4;exact .inr (Nat.le_trans h.g0 (Nat.le_of_lt h4))),fun k hk => ?_,h2.keep h.box (fun hh => ?_),h.g0,h.lt⟩
  · rcases h3 k hk with h4 | h4
    · exact h.fr k h4
    · exact .inr (by omega)
  · rcases h.fr g hh with h4 | h4
    · have:=h.lt g h4;have:=h.g0;omega
    · omega
end
section
variable (w0:World) (v:Value) (L:List ByteArray) (k at':Int) (A1:Option Addr) (c1:Nat) (l1:List Int) (A2:Option Addr) (c2:Nat) (l2:List ByteArray) (A3:Option Addr) (c3:Nat) (l3:List Int) (w:World)
def RPutPost (w:World) (e:Ending) (w':World):Prop:=∃ v',e = .returned (.tuple #[.string (putR k l1 l2 l3 at' L).1,v',.int .i64 (putR k l1 l2 l3 at' L).2.2])∧Own w0 w' v' (putR k l1 l2 l3 at' L).2.1∧Mv (Of v) w w'∧∀ k,Of v' k→Of v k ∨ w.heap.size≤k
end
end Go.Proofs.YtoigkneoaemcfaaDoor.Rec
