import Derived.Test.YtoigkneoaemcfaaDoorNoM8
import Derived.Test.YtoigkneoaemcfaaDoorNoM4
namespace Go.Proofs.YtoigkneoaemcfaaDoor.Rec
open Go.RowKit Go.Lib Go.Proofs.YtoigkneoaemcfaaDoorW.PrintWords Go.Proofs.YtoigkneoaemcfaaDoorW.PrintLast Go.Proofs.YtoigkneoaemcfaaDoorW.PrintMore Go.Proofs.YtoigkneoaemcfaaDoor.B Go.Proofs.YtoigkneoaemcfaaDoor.Bd Go.Proofs.YtoigkneoaemcfaaDoor.Tab Go.Proofs.YtoigkneoaemcfaaDoor.GN
set_option linter.unusedVariables false
set_option linter.unusedSimpArgs false
def NBox (w:World) (g:Nat) (k:Int) (v1 v2 v3:Value):Prop:=w.heap[g]? = some (.cells #[.int .i64 k,v1,v2,v3] 40 (0,0))
theorem NBox.cells {w:World} {g:Nat} {k:Int} {v1 v2 v3:Value} (h:NBox w g k v1 v2 v3):w.cell? ⟨g,0,none⟩ = some (.int .i64 k)∧w.cell? ⟨g,1,none⟩ = some v1∧w.cell? ⟨g,2,none⟩ = some v2∧w.cell? ⟨g,3,none⟩ = some v3 :=
  ⟨(blk_cell h 0).trans rfl,(blk_cell h 1).trans rfl,(blk_cell h 2).trans rfl,(blk_cell h 3).trans rfl⟩
theorem NBox.below {w w':World} {g:Nat} {k:Int} {v1 v2 v3:Value} (h:NBox w g k v1 v2 v3) (hb:Below w.heap.size w w'):NBox w' g k v1 v2 v3:=blk_below h hb
structure In (w:World) (A1:Option Addr) (c1:Nat) (l1:List Int) (A2:Option Addr) (c2:Nat) (l2:List ByteArray) (A3:Option Addr) (c3:Nat) (l3:List Int):Prop where
  r1:Kd.C (Kd.int .i64) w A1 l1.length l1
  e1:l1.length≤c1
  r2:Kd.C Kd.string w A2 l2.length l2
  e2:l2.length≤c2
  r3:Kd.C (Kd.int .i64) w A3 l3.length l3
  e3:l3.length≤c3
section
variable {A1:Option Addr} {c1:Nat} {l1:List Int} {A2:Option Addr} {c2:Nat} {l2:List ByteArray} {A3:Option Addr} {c3:Nat} {l3:List Int}
theorem In.below {w w':World} (h:In w A1 c1 l1 A2 c2 l2 A3 c3 l3) (hb:Below w.heap.size w w'):In w' A1 c1 l1 A2 c2 l2 A3 c3 l3 :=
  ⟨Kd.C_below h.r1 hb,h.e1,Kd.C_below h.r2 hb,h.e2,Kd.C_below h.r3 hb,h.e3⟩
end
structure St (w wr:World) (F F' Fb:Nat→Prop) (p b g:Nat) (L':List ByteArray) (o:ByteArray) (k:Int) (v1 v2 v3:Value):Prop where
  mv:Mv F w wr
  tab:IsTab wr F' p L'
  bd:IsBd wr Fb b o
  fr:∀ k,F' k→F k ∨ g < k
  fb:∀ k,Fb k→g < k
  ap:∀ k,F' k→¬ Fb k
  box:NBox wr g k v1 v2 v3
  g0:w.heap.size≤g
  lt:∀ k,F k→k < w.heap.size
section
variable {w wr w':World} {F F' Fb:Nat→Prop} {p b g:Nat} {L':List ByteArray} {o:ByteArray} {k:Int} {v1 v2 v3:Value}
theorem St.below (h:St w wr F F' Fb p b g L' o k v1 v2 v3) (hb:Below wr.heap.size wr w'):St w w' F F' Fb p b g L' o k v1 v2 v3 :=
  ⟨h.mv.trans (Mv.of_below (S:=nil) hb) (fun _ hk => hk.elim),h.tab.below hb,h.bd.below hb,h.fr,h.fb,h.ap,h.box.below hb,h.g0,h.lt⟩
theorem St.write (h:St w wr F F' Fb p b g L' o k v1 v2 v3) (x:ByteArray) (hx:o.size+x.size≤140737488355328) :
    Calls Tryd.prog 39 #[.pointer (some ⟨b,0,none⟩),.string x] wr fun e w' => e = .returned (.tuple #[.int .i64 x.size,.nilIface])∧∃ Fb',St w w' F F' Fb' p b g L' (o ++ x) k v1 v2 v3:=by
  refine (write_calls Fb b o x wr h.bd hx).mono ?_
  rintro e w' ⟨rfl,Fb',h1,h2,h3⟩
  have hg:g < wr.heap.size:=blk_lt h.box
  refine ⟨rfl,Fb',h.mv.trans h2 (fun k hk => .inr (Nat.le_trans h.g0 (Nat.le_of_lt (h.fb k hk)))),h.tab.mv h2 h.ap,h1,h.fr,fun k hk => ?_,fun k hk hb => ?_,h2.keep h.box (fun hh => by have:=h.fb g hh;omega),h.g0,h.lt⟩
  · rcases h3 k hk with h4 | h4
    · exact h.fb k h4
    · omega
  · rcases h3 k hb with h4 | h4
    · exact h.ap k hk h4
    · have:=h.tab.lt k hk;omega
theorem St.intern (h:St w wr F F' Fb p b g L' o k v1 v2 v3) (s:ByteArray) (hs:s.size≤1000000000) (hl:L'.length≤100000000) (ht:total L'≤1000000000000000) :
    Calls Tryd.prog 46 #[.pointer (some ⟨p,0,none⟩),.string s] wr fun e w' => e = .returned (.int .i64 ((Tab.intern L' s).2:Int))∧∃ F'',St w w' F F'' Fb p b g (Tab.intern L' s).1 o k v1 v2 v3:=by
  refine (intern_calls F' p L' s wr h.tab hs hl ht).mono ?_
  rintro e w' ⟨rfl,F'',h1,h2,h3⟩
  have hg:g < wr.heap.size:=blk_lt h.box
  refine ⟨rfl,F'',h.mv.trans h2 (fun k hk => by rcases h.fr k hk with h4 | h4;exact .inl h4;exact .inr (Nat.le_trans h.g0 (Nat.le_of_lt h4))),h1,h.bd.mv h2 (fun k hk hf => h.ap k hf hk),fun k hk => ?_,h.fb,fun k hk hb => ?_,h2.keep h.box (fun hh => ?_),h.g0,h.lt⟩
  · rcases h3 k hk with h4 | h4
    · exact h.fr k h4
    · exact .inr (by omega)
  · rcases h3 k hk with h4 | h4
    · exact h.ap k h4 hb
    · have:=h.bd.lt k hb;omega
  · rcases h.fr g hh with h4 | h4
    · have:=h.lt g h4;have:=h.g0;omega
    · omega
theorem St.string (h:St w wr F F' Fb p b g L' o k v1 v2 v3) (h0:o.size≠0) :
    Calls Tryd.prog 42 #[.pointer (some ⟨b,0,none⟩)] wr fun e w' => e = .returned (.string o)∧∃ F'',Mv F w w'∧IsTab w' F'' p L'∧Fresh w.heap.size F F'':=by
  refine (string_calls Fb b o wr h.bd h0).mono ?_
  rintro e w' ⟨rfl,h2⟩
  exact ⟨rfl,F',h.mv.trans h2 (fun k hk => .inr (Nat.le_trans h.g0 (Nat.le_of_lt (h.fb k hk)))),h.tab.mv h2 h.ap,fun k hk => by rcases h.fr k hk with h4 | h4;exact .inl h4;exact .inr (Nat.le_trans h.g0 (Nat.le_of_lt h4))⟩
end
theorem I64.drop {l:List Int} (h:I64 l) (i:Nat):I64 (l.drop i):=fun x hx => h x (List.mem_of_mem_drop hx)
section
variable (F:Nat→Prop) (p:Nat) (L:List ByteArray) (k at':Int) (A1:Option Addr) (c1:Nat) (l1:List Int) (A2:Option Addr) (c2:Nat) (l2:List ByteArray) (A3:Option Addr) (c3:Nat) (l3:List Int) (w:World)
def PutPost (w:World) (e:Ending) (w':World):Prop:=e = .returned (.tuple #[.string (putR k l1 l2 l3 at' L).1,.int .i64 (putR k l1 l2 l3 at' L).2.2])∧∃ F',IsTab w' F' p (putR k l1 l2 l3 at' L).2.1∧Mv F w w'∧Fresh w.heap.size F F'
theorem put_err {w':World} {q:Int} (hq:putE k l1 l2 l3 at' = q) (h0:q≠0) (hT:IsTab w' F p L) (hM:Mv F w w'):PutPost F p L k at' l1 l2 l3 w (.returned (.tuple #[.string ⟨#[]⟩,.int .i64 q])) w':=by
  unfold PutPost putR
  rw [hq,if_pos h0]
  exact ⟨rfl,F,hT,hM,Fresh.refl _ _⟩
set_option maxHeartbeats 8000000 in
set_option maxRecDepth 100000 in
theorem recput_calls (hT:IsTab w F p L) (ht:∀ w',Mv F w w'→Lib.Utf8Tabs 0 1 w') (hn:∀ w',Mv F w w'→In w' A1 c1 l1 A2 c2 l2 A3 c3 l3) (hf:Fit l1 l2 l3) (hi1:I64 l1) (hi3:I64 l3) (hat:-9223372036854775808≤at'∧at'≤9223372036854775807) (hL:L.length≤1000000) (htot:total L≤1000000000000) :
    Calls Tryd.prog 17 #[.agg #[.int .i64 k,.slice A1 l1.length c1,.slice A2 l2.length c2,.slice A3 l3.length c3],.int .i64 at',.pointer (some ⟨p,0,none⟩)] w fun e w' => PutPost F p L k at' l1 l2 l3 w e w':=by
  have HT:=Lib.hid ht
  have HN:=Lib.hid hn
  have HTab:=Lib.hid hT
  have HF:=Lib.hid hf
  have HI1:=Lib.hid hi1
  have HI3:=Lib.hid hi3
  have hn1:=hf.n1
  have hn2:=hf.n2
  have hn3:=hf.n3
  obtain ⟨hat0,hat1⟩:=hat
  clear ht hn hT hf hi1 hi3
  go_enter Tryd.func17,Tryd.ntmps17
  go_wp2_with (fail)
  generalize hw1:w.alloc (.cells #[.int .i64 k,.slice A1 l1.length c1,.slice A2 l2.length c2,.slice A3 l3.length c3] 40) = w1
  have X1:Hid (NBox w1 w.heap.size k (.slice A1 l1.length c1) (.slice A2 l2.length c2) (.slice A3 l3.length c3)):=Lib.hid (by rw [← hw1];exact heap_alloc_new w _)
  have D1:Hid (Below w.heap.size w w1):=Lib.hid (by rw [← hw1];exact (Below.refl _ w).alloc (Nat.le_refl _) _)
  clear hw1
  have hbx:=X1.out.cells
  obtain ⟨x0,x1,x2,x3⟩:=hbx
  have hg1:Hid (w.heap.size < w1.heap.size):=Lib.hid (blk_lt X1.out)
  obtain ⟨⟨m0,s1,s2,s3,ok⟩,hS⟩:∃ x,x = newS k:=⟨_,rfl⟩
  have HS:=Lib.hid hS
  clear hS
  go_wp2_with (fail)
  refine (schema_New.calls k m0 s1 s2 s3 ok w1 (by rw [new_code,← HS.out])).mono ?_
  rintro e w2 ⟨v2,rfl,ho2,hb2⟩
  obtain ⟨B0,d0,rfl,hd0,hC2⟩:=Kd.R_reads ho2
  have X2:=Lib.hid (X1.out.below hb2)
  have D2:=Lib.hid (below_step D1.out hb2)
  have HC2:=Lib.hid hC2
  clear hb2 hC2 ho2 x0 x1 x2 x3
  go_upto_region 2 with (fail)
  have hn3:=heap_alloc_new w2 (.cells #[.slice B0 m0.length d0,.int .i64 s1,.int .i64 s2,.int .i64 s3] 97)
  have hb3:Below w2.heap.size w2 (w2.alloc (.cells #[.slice B0 m0.length d0,.int .i64 s1,.int .i64 s2,.int .i64 s3] 97)):=(Below.refl _ _).alloc (Nat.le_refl _) _
  generalize w2.alloc (.cells #[.slice B0 m0.length d0,.int .i64 s1,.int .i64 s2,.int .i64 s3] 97) = w3 at hn3 hb3 ⊢
  have X3:=Lib.hid (X2.out.below hb3)
  have D3:=Lib.hid (below_step D2.out hb3)
  have HC3:=Lib.hid (Kd.C_below HC2.out hb3)
  have HN3:=Lib.hid hn3
  clear hb3 hn3
  cases ok with
  | false =>
    have hE:putE k l1 l2 l3 at' = 9:=by unfold putE nodeE;rw [← HS.out];simp
    have HE:=Lib.hid hE
    clear hE
    go_wp2_with (fail)
    go_ret2
    exact put_err F p L k at' l1 l2 l3 w HE.out (by decide) (HTab.out.below D3.out) (Mv.of_below D3.out)
  | true =>
    have hok:(newS k).2.2.2.2 = true:=by rw [← HS.out]
    obtain ⟨k1,k8,_,_,_,_⟩:=newS_ok hok
    obtain ⟨kn,rfl⟩:∃ n:Nat,k = (n:Int):=⟨k.toNat,by omega⟩
    have HNE:=Lib.hid (show nodeE (kn:Int) l1 l2 l3 = chk l1 l2 l3 m0 s1 s2 s3 by unfold nodeE;rw [← HS.out];simp)
    clear hok
    obtain ⟨x0,x1,x2,x3⟩:=X3.out.cells
    have y0:w3.cell? ⟨w2.heap.size,0,none⟩ = some (.slice B0 m0.length d0):=(blk_cell HN3.out 0).trans rfl
    have y1:w3.cell? ⟨w2.heap.size,1,none⟩ = some (.int .i64 s1):=(blk_cell HN3.out 1).trans rfl
    have y2:w3.cell? ⟨w2.heap.size,2,none⟩ = some (.int .i64 s2):=(blk_cell HN3.out 2).trans rfl
    have y3:w3.cell? ⟨w2.heap.size,3,none⟩ = some (.int .i64 s3):=(blk_cell HN3.out 3).trans rfl
    go_wp2_with (fail)
    have I3:=HN.out _ (Mv.of_below D3.out)
    refine (field_Check.calls 9000 (kn:Int) A1 c1 l1 A2 c2 l2 A3 c3 l3 B0 d0 m0 s1 s2 s3 (chk l1 l2 l3 m0 s1 s2 s3) w3 (fun w' hb => HT.out w' (Mv.of_below (below_step D3.out hb))) I3.r1 I3.e1 I3.r2 I3.e2 I3.r3 I3.e3 HC3.out hd0 (fchk 9000 (Nat.le_refl _) (kn:Int) m0 s1 s2 s3 HF.out)).mono ?_
    clear I3
    rintro e w4 ⟨rfl,hb4⟩
    have X4:=Lib.hid (X3.out.below hb4)
    have D4:=Lib.hid (below_step D3.out hb4)
    have HM4:=Lib.hid (Mv.of_below (S:=F) D4.out)
    have HT4:=Lib.hid (HTab.out.below D4.out)
    clear hb4 x0 x1 x2 x3 y0 y1 y2 y3
    generalize chk l1 l2 l3 m0 s1 s2 s3 = q at *
    by_cases hq:q = 0
    rotate_left
    · have t32:(q != 0) = true:=bne_iff_ne.mpr hq
      have HE:=Lib.hid (show putE (kn:Int) l1 l2 l3 at' = q by unfold putE;rw [HNE.out,if_pos hq])
      go_wp2_with (fail)
      go_ret2
      exact put_err F p L (kn:Int) at' l1 l2 l3 w HE.out hq HT4.out HM4.out
    have t32:(q != 0) = false:=by simpa using hq
    subst hq
    obtain ⟨x0,x1,x2,x3⟩:=X4.out.cells
    have I4:=Lib.hid (HN.out _ HM4.out)
    go_wp2_with (fail)
    go_loopg [12,37] l3.length (fun kq v12 v37 wr => ∃ (i:Nat) (x:Value),v12 = x∧v37 = .int .i64 (i:Int)∧i+kq = l3.length∧Aside0 (kidsE at' (l3.drop i) = kidsE at' l3)∧w4 = wr)
    case atStart => exact ⟨0,_,rfl,rfl,by omega,⟨rfl⟩,rfl⟩
    case round =>
      obtain ⟨i,x,rfl,rfl,hik,hK,hww⟩:=hrel
      subst hww
      by_cases hlt:(i:Int) < (l3.length:Int)
      · have t4:decide ((i:Int) < (l3.length:Int)) = true:=decide_eq_true hlt
        obtain ⟨ko,rfl⟩:∃ g,gk = g+1:=⟨gk - 1,by omega⟩
        obtain ⟨ad,e,u1⟩:=Kd.at_int I4.out.r3 (i:Int) (by omega) hlt
        subst e
        rw [Int.toNat_natCast] at u1
        have HD:=Lib.hid (num_at (l:=l3) (i:=i) (by omega))
        generalize rd l3 (i:Int) = y at *
        have hcons:kidsE at' (l3.drop i) = (decide (y < 0 ∨ at'≤y) || kidsE at' (l3.drop (i+1))):=by rw [HD.out];rfl
        have HCONS:=Lib.hid hcons
        clear hcons
        have herr:(y < 0 ∨ at'≤y)→putE (kn:Int) l1 l2 l3 at' = 13:=fun hy => by
          have h1:=HCONS.out
          rw [hK.out,decide_eq_true hy,Bool.true_or] at h1
          unfold putE
          rw [HNE.out,if_neg (by simp),if_pos h1]
        have HERR:=Lib.hid herr
        clear herr
        by_cases hy0:y < 0
        · have e1:decide (y < 0) = true:=decide_eq_true hy0
          have HE:=Lib.hid (HERR.out (.inl hy0))
          go_wp2_with (fail)
          go_ret2
          exact put_err F p L (kn:Int) at' l1 l2 l3 w HE.out (by decide) HT4.out HM4.out
        have e1:decide (y < 0) = false:=decide_eq_false hy0
        by_cases hy1:y ≥ at'
        · have e2:decide (y ≥ at') = true:=decide_eq_true hy1
          have HE:=Lib.hid (HERR.out (.inr hy1))
          go_wp2_with (fail)
          go_ret2
          exact put_err F p L (kn:Int) at' l1 l2 l3 w HE.out (by decide) HT4.out HM4.out
        have e2:decide (y ≥ at') = false:=decide_eq_false hy1
        have HK2:=Lib.hid (show kidsE at' (l3.drop (i+1)) = kidsE at' l3 by rw [← hK.out,HCONS.out,decide_eq_false (by omega),Bool.false_or])
        go_wp2_with (fail)
        go_roundg ko
        case measure => omega
        case rel => exact ⟨i+1,_,rfl,rfl,by omega,⟨HK2.out⟩,rfl⟩
      · have t4:decide ((i:Int) < (l3.length:Int)) = false:=decide_eq_false hlt
        have hk0:kidsE at' l3 = false:=by rw [← hK.out,List.drop_of_length_le (by omega)];rfl
        have HK0:=Lib.hid hk0
        have HP0:=Lib.hid (show putE (kn:Int) l1 l2 l3 at' = 0 by unfold putE;rw [HNE.out,hk0];simp)
        clear hk0 hK
        have hwk:IntKind.u64.wrap (kn:Int) = (kn:Int):=by rw [VM.u64_wrap];omega
        go_upto_region 14 with (fail)
        have hSt0:St w (w4.alloc (.cells #[.pointer none,.slice none 0 0] 82)) F F (one w4.heap.size) p w4.heap.size w.heap.size L ⟨#[]⟩ (kn:Int) (.slice A1 l1.length c1) (.slice A2 l2.length c2) (.slice A3 l3.length c3) :=
          ⟨HM4.out.alloc _,HT4.out.below ((Below.refl _ _).alloc (Nat.le_refl _) _),IsBd.new w4,fun k hk => .inl hk,fun k hk => by obtain rfl:k = w4.heap.size:=hk;exact blk_lt X4.out,fun k hk hb => by obtain rfl:k = w4.heap.size:=hb;exact absurd (HT4.out.lt _ hk) (Nat.lt_irrefl _),X4.out.below ((Below.refl _ _).alloc (Nat.le_refl _) _),Nat.le_refl _,HTab.out.lt⟩
        clear x0 x1 x2 x3
        generalize w4.alloc (.cells #[.pointer none,.slice none 0 0] 82) = w4b at *
        obtain ⟨x0,x1,x2,x3⟩:=hSt0.box.cells
        have HSt0:=Lib.hid hSt0
        clear hSt0
        go_wp2_with (fail)
        try rw [hwk]
        refine (Cur.put_calls kn (by omega) _).mono ?_
        rintro e w5 ⟨rfl,hb5⟩
        have S5:=Lib.hid (HSt0.out.below hb5)
        have hps:=Cur.put_size_le (n:=kn) (by omega)
        have hp0:0 < (Cur.put kn).size:=by
          rw [Cur.put_size]
          exact List.length_pos_iff.2 (VM.enc_ne kn)
        have e_:(⟨#[]⟩:ByteArray).size = 0:=rfl
        have HBW:=Lib.hid (show bI (⟨#[]⟩ ++ Cur.put kn) l1 = bI (Cur.put ((kn:Int)).toNat) l1 by rw [Int.toNat_natCast,show (⟨#[]⟩:ByteArray) ++ Cur.put kn = Cur.put kn from (by first | exact ByteArray.empty_append | (ext1;simp))])
        have hes:((⟨#[]⟩:ByteArray) ++ Cur.put kn).size = (Cur.put kn).size:=by rw [ByteArray.size_append,e_,Nat.zero_add]
        clear HSt0 hb5 x0 x1 x2 x3
        generalize w4.heap.size = b at *
        go_wp2_with (fail)
        refine (S5.out.write (Cur.put kn) (by omega)).mono ?_
        rintro e w6 ⟨rfl,Fb6,h6⟩
        have S6:=Lib.hid h6
        obtain ⟨x0,x1,x2,x3⟩:=h6.box.cells
        clear h6
        generalize (⟨#[]⟩:ByteArray) ++ Cur.put kn = o6 at *
        go_wp2_with (fail)
        clear x0 x1 x2 x3
        go_loopg [15,57] l1.length (fun kq v15 v57 wr => ∃ (i:Nat) (Fb:Nat→Prop) (o:ByteArray) (x:Value),v15 = x∧v57 = .int .i64 (i:Int)∧i+kq = l1.length∧0 < o.size∧o.size≤10+10 * i∧Aside0 (St w wr F F Fb p b w.heap.size L o (kn:Int) (.slice A1 l1.length c1) (.slice A2 l2.length c2) (.slice A3 l3.length c3))∧Aside0 (bI o (l1.drop i) = bI (Cur.put ((kn:Int)).toNat) l1))
        case atStart => exact ⟨0,Fb6,o6,_,rfl,rfl,by omega,by omega,by omega,⟨S6.out⟩,⟨HBW.out⟩⟩
        case round =>
          obtain ⟨i,Fb,o,x,rfl,rfl,hik,ho0,ho1,hSt,hBI⟩:=hrel
          obtain ⟨wo,hwo⟩:∃ z,z = wr:=⟨_,rfl⟩
          subst hwo
          by_cases hlt:(i:Int) < (l1.length:Int)
          · have t4:decide ((i:Int) < (l1.length:Int)) = true:=decide_eq_true hlt
            obtain ⟨ko,rfl⟩:∃ g,gk = g+1:=⟨gk - 1,by omega⟩
            obtain ⟨ad,e,u1⟩:=Kd.at_int (HN.out _ hSt.out.mv).r1 (i:Int) (by omega) hlt
            subst e
            rw [Int.toNat_natCast] at u1
            have HD:=Lib.hid (num_at (l:=l1) (i:=i) (by omega))
            have hyr:=HI1.out.drop i (rd l1 (i:Int)) (by rw [HD.out];exact List.mem_cons_self)
            generalize rd l1 (i:Int) = y at *
            obtain ⟨z,hz⟩:=Int.eq_ofNat_of_zero_le (Cur.zg_nonneg y)
            have HZ:=Lib.hid hz
            have hzl:z < 18446744073709551616:=by unfold Cur.zg at hz;split at hz <;> omega
            go_wp2_with (fail)
            refine (Cur.zig_calls y hyr.1 hyr.2 _).mono ?_
            rw [hz]
            rintro e w7 ⟨rfl,hd7⟩
            have S7:=Lib.hid (hSt.out.below hd7.below)
            clear hd7 u1 hz
            go_wp2_with (fail)
            refine (Cur.put_calls z hzl _).mono ?_
            rintro e w8 ⟨rfl,hb8⟩
            have S8:=Lib.hid (S7.out.below hb8)
            have hpz:=Cur.put_size_le (n:=z) hzl
            clear hb8
            go_wp2_with (fail)
            refine (S8.out.write (Cur.put z) (by omega)).mono ?_
            rintro e w9 ⟨rfl,Fb9,h9⟩
            have S9:=Lib.hid h9
            have hsa:(o ++ Cur.put z).size = o.size+(Cur.put z).size:=ByteArray.size_append
            have HB9:=Lib.hid (show bI (o ++ Cur.put z) (l1.drop (i+1)) = bI (Cur.put ((kn:Int)).toNat) l1 by rw [← hBI.out,HD.out,bI,HZ.out];rfl)
            clear h9
            go_wp2_with (fail)
            go_roundg ko
            case measure => omega
            case rel => exact ⟨i+1,Fb9,o ++ Cur.put z,_,rfl,rfl,by omega,by omega,by omega,⟨S9.out⟩,⟨HB9.out⟩⟩
          · have t4:decide ((i:Int) < (l1.length:Int)) = false:=decide_eq_false hlt
            have HOI:=Lib.hid (show o = bI (Cur.put ((kn:Int)).toNat) l1 by rw [← hBI.out,List.drop_of_length_le (by omega)];rfl)
            obtain ⟨x0,x1,x2,x3⟩:=hSt.out.box.cells
            clear hBI
            go_wp2_with (fail)
            clear x0 x1 x2 x3
            go_loopg [17,69] l2.length (fun kq v17 v69 wr => ∃ (i:Nat) (F' Fb:Nat→Prop) (L':List ByteArray) (o:ByteArray) (x:Value),v17 = x∧v69 = .int .i64 (i:Int)∧i+kq = l2.length∧0 < o.size∧o.size≤20000+10 * i∧L'.length≤L.length+i∧total L'≤total L+5000 * i∧Aside0 (St w wr F F' Fb p b w.heap.size L' o (kn:Int) (.slice A1 l1.length c1) (.slice A2 l2.length c2) (.slice A3 l3.length c3))∧Aside0 (bT o L' (l2.drop i) = bT (bI (Cur.put ((kn:Int)).toNat) l1) L l2))
            case atStart => exact ⟨0,F,Fb,L,o,_,rfl,rfl,by omega,by omega,by omega,by omega,by omega,⟨hSt.out⟩,⟨by rw [HOI.out];rfl⟩⟩
            case round =>
              clear hSt HOI ho0 ho1 hik hlt
              obtain ⟨i,F',Fb,L',o,x,rfl,rfl,hik,ho0,ho1,hL1,hL2,hSt,hBT⟩:=hrel
              obtain ⟨wo,hwo⟩:∃ z,z = wr:=⟨_,rfl⟩
              subst hwo
              by_cases hlt:(i:Int) < (l2.length:Int)
              · have t4:decide ((i:Int) < (l2.length:Int)) = true:=decide_eq_true hlt
                obtain ⟨ko,rfl⟩:∃ g,gk = g+1:=⟨gk - 1,by omega⟩
                obtain ⟨ad,e,u1⟩:=Kd.at_string (HN.out _ hSt.out.mv).r2 (i:Int) (by omega) hlt
                subst e
                rw [Int.toNat_natCast] at u1
                have HD:=Lib.hid (txt_at (l:=l2) (i:=i) (by omega))
                have hys:=HF.out.s2 (rdOf ByteArray.empty l2 (i:Int)) (List.mem_of_mem_drop (show _ ∈ l2.drop i by rw [HD.out];exact List.mem_cons_self))
                generalize rdOf ByteArray.empty l2 (i:Int) = y at *
                have hil:=(intern_len L' y).1
                have hit:=intern_total L' y
                have hix:=intern_lt L' y
                go_wp2_with (fail)
                refine (hSt.out.intern y (by omega) (by omega) (by omega)).mono ?_
                have HX:Hid ((bT (o ++ Cur.put (intern L' y).2) (intern L' y).1 (l2.drop (i+1))) = bT (bI (Cur.put ((kn:Int)).toNat) l1) L l2):=Lib.hid (by rw [← hBT.out,HD.out];rfl)
                generalize (intern L' y).1 = L2 at *
                generalize (intern L' y).2 = z at *
                rintro e w7 ⟨rfl,F7,h7⟩
                have S7:=Lib.hid h7
                clear h7 u1
                have hwz:IntKind.u64.wrap (z:Int) = (z:Int):=by rw [VM.u64_wrap];omega
                go_wp2_with (fail)
                try rw [hwz]
                refine (Cur.put_calls z (by omega) _).mono ?_
                rintro e w8 ⟨rfl,hb8⟩
                have S8:=Lib.hid (S7.out.below hb8)
                have hpz:=Cur.put_size_le (n:=z) (by omega)
                clear hb8
                go_wp2_with (fail)
                refine (S8.out.write (Cur.put z) (by omega)).mono ?_
                rintro e w9 ⟨rfl,Fb9,h9⟩
                have S9:=Lib.hid h9
                have hsa:(o ++ Cur.put z).size = o.size+(Cur.put z).size:=ByteArray.size_append
                clear h9
                go_wp2_with (fail)
                go_roundg ko
                case measure => omega
                case rel => exact ⟨i+1,F7,Fb9,L2,o ++ Cur.put z,_,rfl,rfl,by omega,by omega,by omega,by omega,by omega,⟨S9.out⟩,⟨HX.out⟩⟩
              · have t4:decide ((i:Int) < (l2.length:Int)) = false:=decide_eq_false hlt
                have HOT:=Lib.hid (show (o,L') = bT (bI (Cur.put ((kn:Int)).toNat) l1) L l2 by rw [← hBT.out,List.drop_of_length_le (by omega)];rfl)
                have hS0:=Lib.hid hSt.out
                obtain ⟨x0,x1,x2,x3⟩:=hSt.out.box.cells
                have hwl:IntKind.u64.wrap (l3.length:Int) = (l3.length:Int):=by rw [VM.u64_wrap];omega
                clear hBT hSt
                go_wp2_with (fail)
                try rw [hwl]
                refine (Cur.put_calls l3.length (by omega) _).mono ?_
                rintro e w7 ⟨rfl,hb7⟩
                have S7:=Lib.hid (hS0.out.below hb7)
                have hpz:=Cur.put_size_le (n:=l3.length) (by omega)
                clear hb7 hS0 x0 x1 x2 x3
                go_wp2_with (fail)
                refine (S7.out.write (Cur.put l3.length) (by omega)).mono ?_
                rintro e w8 ⟨rfl,Fb8,h8⟩
                have S8:=Lib.hid h8
                obtain ⟨x0,x1,x2,x3⟩:=h8.box.cells
                have hsa:(o ++ Cur.put l3.length).size = o.size+(Cur.put l3.length).size:=ByteArray.size_append
                clear h8
                have HOK:=Lib.hid (show putO (kn:Int) l1 l2 l3 at' L = (bK at' (o ++ Cur.put l3.length) l3,L') by unfold putO;rw [← HOT.out])
                generalize o ++ Cur.put l3.length = o8 at *
                go_wp2_with (fail)
                clear x0 x1 x2 x3
                go_loopg [19,89] l3.length (fun kq v19 v89 wr => ∃ (i:Nat) (Fb:Nat→Prop) (o:ByteArray) (x:Value),v19 = x∧v89 = .int .i64 (i:Int)∧i+kq = l3.length∧0 < o.size∧o.size≤40000+10 * i∧Aside0 (St w wr F F' Fb p b w.heap.size L' o (kn:Int) (.slice A1 l1.length c1) (.slice A2 l2.length c2) (.slice A3 l3.length c3))∧Aside0 (bK at' o (l3.drop i) = bK at' o8 l3))
                case atStart => exact ⟨0,Fb8,o8,_,rfl,rfl,by omega,by omega,by omega,⟨S8.out⟩,⟨rfl⟩⟩
                case round =>
                  clear S8 S7 hsa hpz hwl ho0 ho1 hL1 hL2 hik hlt
                  obtain ⟨i,Fb,o,x,rfl,rfl,hik,ho0,ho1,hSt,hBK⟩:=hrel
                  obtain ⟨wo,hwo⟩:∃ z,z = wr:=⟨_,rfl⟩
                  subst hwo
                  by_cases hlt:(i:Int) < (l3.length:Int)
                  · have t4:decide ((i:Int) < (l3.length:Int)) = true:=decide_eq_true hlt
                    obtain ⟨ko,rfl⟩:∃ g,gk = g+1:=⟨gk - 1,by omega⟩
                    obtain ⟨ad,e,u1⟩:=Kd.at_int (HN.out _ hSt.out.mv).r3 (i:Int) (by omega) hlt
                    subst e
                    rw [Int.toNat_natCast] at u1
                    have HD:=Lib.hid (num_at (l:=l3) (i:=i) (by omega))
                    have hyk:¬ (rd l3 (i:Int) < 0 ∨ at'≤rd l3 (i:Int)):=by
                      have h1:=HK0.out
                      unfold kidsE at h1
                      rw [List.any_eq_false] at h1
                      have h2:=h1 (rd l3 (i:Int)) (List.mem_of_mem_drop (show _ ∈ l3.drop i by rw [HD.out];exact List.mem_cons_self))
                      simpa using h2
                    generalize rd l3 (i:Int) = y at *
                    obtain ⟨z,hz⟩:∃ z:Nat,at' - y = (z:Int):=⟨(at' - y).toNat,by omega⟩
                    have HZ:=Lib.hid (show (at' - y).toNat = z by omega)
                    have hws:wrap64 (at' - y) = (z:Int):=by rw [w64 (by omega) (by omega)];exact hz
                    have hwi:IntKind.i64.wrap (at' - y) = (z:Int):=by rw [IntKind.wrap_i64];omega
                    have hwz:IntKind.u64.wrap (z:Int) = (z:Int):=by rw [VM.u64_wrap];omega
                    have hzl:z < 18446744073709551616:=by omega
                    go_wp2_with (fail)
                    try rw [hwi]
                    try rw [hwz]
                    refine (Cur.put_calls z hzl _).mono ?_
                    rintro e w9 ⟨rfl,hb9⟩
                    have S9:=Lib.hid (hSt.out.below hb9)
                    have hpz:=Cur.put_size_le (n:=z) hzl
                    clear hb9 u1
                    go_wp2_with (fail)
                    refine (S9.out.write (Cur.put z) (by omega)).mono ?_
                    rintro e w10 ⟨rfl,Fb10,h10⟩
                    have S10:=Lib.hid h10
                    have hsa:(o ++ Cur.put z).size = o.size+(Cur.put z).size:=ByteArray.size_append
                    have HB10:=Lib.hid (show bK at' (o ++ Cur.put z) (l3.drop (i+1)) = bK at' o8 l3 by rw [← hBK.out,HD.out,bK,HZ.out])
                    clear h10
                    go_wp2_with (fail)
                    go_roundg ko
                    case measure => omega
                    case rel => exact ⟨i+1,Fb10,o ++ Cur.put z,_,rfl,rfl,by omega,by omega,by omega,⟨S10.out⟩,⟨HB10.out⟩⟩
                  · have t4:decide ((i:Int) < (l3.length:Int)) = false:=decide_eq_false hlt
                    have HOE:=Lib.hid (show putO (kn:Int) l1 l2 l3 at' L = (o,L') by rw [HOK.out,← hBK.out,List.drop_of_length_le (by omega)];rfl)
                    clear hBK
                    go_wp2_with (fail)
                    refine (hSt.out.string (by omega)).mono ?_
                    rintro e w9 ⟨rfl,F9,h1,h2,h3⟩
                    have H1:=Lib.hid h1
                    have H2:=Lib.hid h2
                    have H3:=Lib.hid h3
                    clear h1 h2 h3
                    go_wp2_with (fail)
                    go_ret2
                    have hR:putR (kn:Int) l1 l2 l3 at' L = (o,L',0):=by unfold putR;rw [HP0.out,if_neg (by simp),HOE.out]
                    unfold PutPost
                    rw [hR]
                    exact ⟨rfl,F9,H2.out,H1.out,H3.out⟩
end
end Go.Proofs.YtoigkneoaemcfaaDoor.Rec
