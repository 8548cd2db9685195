import Derived.Test.YtoigkneoaemcfaaDoorNoM15
namespace Go.Proofs.YtoigkneoaemcfaaDoor.Nd
open Go.RowKit Go.Lib Go.Proofs.YtoigkneoaemcfaaDoorW.PrintWords Go.Proofs.YtoigkneoaemcfaaDoorW.PrintLast Go.Proofs.YtoigkneoaemcfaaDoorW.PrintMore Go.Proofs.YtoigkneoaemcfaaDoor.B Go.Proofs.YtoigkneoaemcfaaDoor.Bd Go.Proofs.YtoigkneoaemcfaaDoor.Tab Go.Proofs.YtoigkneoaemcfaaDoor.Rec
open Go.Proofs.YtoigkneoaemcfaaDoor.GN (S40 rd_T40 k40 kidsI checkP cl H)
set_option linter.unusedVariables false
set_option linter.unusedSimpArgs false
theorem bK_sz {at':Int} (h0:at'≤1000000):∀ (l:List Int) (o:ByteArray),kidsE at' l = false→(bK at' o l).size≤o.size+10 * l.length
  | [],o,_ => by simp [bK]
  | q :: l,o,h => by
    unfold kidsE at h
    rw [List.any_cons,Bool.or_eq_false_iff] at h
    have hq:=of_decide_eq_false h.1
    have h1:=bK_sz h0 l (o ++ Cur.put (at' - q).toNat) h.2
    have h2:=Cur.put_size_le (n:=(at' - q).toNat) (by omega)
    rw [ByteArray.size_append] at h1
    rw [bK,List.length_cons];omega
theorem putR_sz {k:Int} {l1:List Int} {l2:List ByteArray} {l3:List Int} {at':Int} {L:List ByteArray} (hf:Fit l1 l2 l3) (hi:I64 l1) (hE:putE k l1 l2 l3 at' = 0) (h0:at'≤1000000) (hL:L.length≤900000):(putR k l1 l2 l3 at' L).1.size≤20000100∧(putR k l1 l2 l3 at' L).2 = (tabOf L l2,0):=by
  obtain ⟨e1,e2⟩:=putE_zero.1 hE
  obtain ⟨k0,k1,_⟩:=newS_ok (good_of e1).1.ok
  have hp:putR k l1 l2 l3 at' L = ((putO k l1 l2 l3 at' L).1,(putO k l1 l2 l3 at' L).2,0):=by unfold putR;rw [if_neg (by simpa using hE)]
  rw [hp]
  refine ⟨?_,by rw [putO_tab]⟩
  have hn1:=hf.n1
  have hn2:=hf.n2
  have hn3:=hf.n3
  have s1:=bK_sz h0 l3 ((bT (bI (Cur.put k.toNat) l1) L l2).1 ++ Cur.put l3.length) e2
  have s2:=bT_size l2 (bI (Cur.put k.toNat) l1) L (by omega)
  have s3:=bI_size l1 (Cur.put k.toNat) hi
  have s4:=Cur.put_size_le (n:=k.toNat) (by omega)
  have s5:=Cur.put_size_le (n:=l3.length) (by omega)
  rw [ByteArray.size_append] at s1
  show (bK at' ((bT (bI (Cur.put k.toNat) l1) L l2).1 ++ Cur.put l3.length) l3).size≤_
  omega
theorem txs_take {l0:List (S40)} {i:Nat} (hi:i < l0.length):txs (l0.take (i+1)) = txs (l0.take i) ++ l0[i].f2:=by
  rw [List.take_succ_eq_append_getElem hi]
  unfold txs
  rw [List.flatMap_append]
  simp
theorem txs_len:∀ (l0:List (S40)) (i:Nat),(txs (l0.take i)).length≤(txs l0).length∧total (txs (l0.take i))≤total (txs l0):=fun l0 i => by
  have:txs l0 = txs (l0.take i) ++ txs (l0.drop i):=by
    conv => lhs;rw [← List.take_append_drop i l0]
    unfold txs
    rw [List.flatMap_append]
  rw [this,List.length_append,total_append];omega
structure PS (w wr:World) (F Fb:Nat→Prop) (p b:Nat) (L:List ByteArray) (o:ByteArray):Prop where
  has:Has w wr F p L
  bd:IsBd wr Fb b o
  fb:∀ k,Fb k→w.heap.size < k
  ap:∀ k,F k→¬ Fb k
  lt:w.heap.size < wr.heap.size
section
variable {w wr w':World} {F Fb:Nat→Prop} {p b:Nat} {L:List ByteArray} {o:ByteArray}
theorem PS.below (h:PS w wr F Fb p b L o) (hb:Below wr.heap.size wr w'):PS w w' F Fb p b L o:=⟨h.has.below hb,h.bd.below hb,h.fb,h.ap,Nat.lt_of_lt_of_le h.lt (below_size hb)⟩
theorem PS.write (h:PS w wr F Fb p b L o) (x:ByteArray) (hx:o.size+x.size≤140737488355328) :
    Calls Tryd.prog 39 #[.pointer (some ⟨b,0,none⟩),.string x] wr fun e w' => e = .returned (.tuple #[.int .i64 x.size,.nilIface])∧Mv Fb wr w'∧∃ Fb',PS w w' F Fb' p b L (o ++ x):=by
  refine (write_calls Fb b o x wr h.bd hx).mono ?_
  rintro e w' ⟨rfl,Fb',h1,h2,h3⟩
  refine ⟨rfl,h2,Fb',h.has.apart h2 (fun k hk => Nat.le_of_lt (h.fb k hk)) h.ap,h1,fun k hk => ?_,fun k hk hb => ?_,Nat.lt_of_lt_of_le h.lt h2.size⟩
  · rcases h3 k hk with h4 | h4
    · exact h.fb k h4
    · exact Nat.lt_of_lt_of_le h.lt h4
  · rcases h3 k hb with h4 | h4
    · exact h.ap k hk h4
    · have:=h.has.lt k hk;omega
theorem PS.rput (h:PS w wr F Fb p b L o) (k at':Int) {A1:Option Addr} {c1:Nat} {l1:List Int} {A2:Option Addr} {c2:Nat} {l2:List ByteArray} {A3:Option Addr} {c3:Nat} {l3:List Int} (ht:∀ w',Below w.heap.size w w'→Lib.Utf8Tabs 0 1 w') (hn:In w A1 c1 l1 A2 c2 l2 A3 c3 l3) (hf:Fit l1 l2 l3) (hi1:I64 l1) (hi3:I64 l3) (hat:-9223372036854775808≤at'∧at'≤9223372036854775807) (hL:L.length≤1000000) (htot:total L≤1000000000000) :
    Calls Tryd.prog 17 #[.agg #[.int .i64 k,.slice A1 l1.length c1,.slice A2 l2.length c2,.slice A3 l3.length c3],.int .i64 at',.pointer (some ⟨p,0,none⟩)] wr fun e w' => e = .returned (.tuple #[.string (putR k l1 l2 l3 at' L).1,.int .i64 (putR k l1 l2 l3 at' L).2.2])∧∃ F',PS w w' F' Fb p b (putR k l1 l2 l3 at' L).2.1 o:=by
  refine (has_rput h.has k at' ht (stays_in h.has hn) hf hi1 hi3 hat hL htot).mono ?_
  rintro e w' ⟨rfl,F',h1,h2,h3⟩
  refine ⟨rfl,F',h1,h.bd.mv h2 (fun k hk hf => h.ap k hf hk),h.fb,fun k hk hb => ?_,Nat.lt_of_lt_of_le h.lt h2.size⟩
  rcases h3 k hk with h4 | h4
  · exact h.ap k h4 hb
  · have:=h.bd.lt k hb;omega
end
structure Big (l0:List (S40)):Prop where
  len:l0.length≤1000
  kids:kidN l0≤1000000
  fit:∀ y ∈ l0,Fit y.f1 y.f2 y.f3
  nums:∀ y ∈ l0,I64 y.f1∧I64 y.f3
  txn:(txs l0).length≤800000
  txt:total (txs l0)≤100000000
section
variable (A0:Option Addr) (c0:Nat) (l0:List (S40)) (a1:Int) (w:World)
set_option maxHeartbeats 8000000 in
set_option maxRecDepth 100000 in
theorem nput_calls (ht:∀ w',Below w.heap.size w w'→Lib.Utf8Tabs 0 1 w') (hr:Kd.C k40 w A0 l0.length l0) (hc:l0.length≤c0) (hB:Big l0) :
    Calls Tryd.prog 12 #[.agg #[.slice A0 l0.length c0,.int .i64 a1]] w fun e w' => e = .returned (.tuple #[.string (putN l0 a1).1,.string (putN l0 a1).2.1,.int .i64 (putN l0 a1).2.2])∧Below w.heap.size w w':=by
  have HT:=Lib.hid ht
  have HR:=Lib.hid hr
  have HB:=Lib.hid hB
  have hn:=hB.len
  clear ht hr hB
  go_enter Tryd.func12,Tryd.ntmps12
  go_wp2_with (fail)
  obtain ⟨hx,hd⟩:=SB.new w A0 l0.length c0 a1
  generalize w.alloc (.cells #[.slice A0 l0.length c0,.int .i64 a1] 27) = w1 at hx hd ⊢
  have D1:=Lib.hid hd
  have X1:=Lib.hid hx
  obtain ⟨x0,x1⟩:=hx.cells
  clear hx hd
  go_wp2_with (fail)
  refine (typed_calls A0 c0 l0 a1 w1 (fun w' hb => HT.out w' (below_step D1.out hb)) (Kd.C_below HR.out D1.out) HB.out.fit (by omega)).mono ?_
  rintro e w2 ⟨rfl,hb2⟩
  have D2:=Lib.hid (below_step D1.out hb2)
  have X2:=Lib.hid (X1.out.below hb2)
  have E1:=Lib.hid (@putN_e1 l0 a1)
  have E2:=Lib.hid (@putN_e2 l0 a1)
  have E3:=Lib.hid (@putN_e3 l0 a1)
  have E4:=Lib.hid (@putNE_zero l0 a1)
  clear hb2 x0 x1 D1 X1
  generalize typedE l0 0 = q1 at *
  obtain ⟨q1,q1b⟩:=q1
  by_cases h1:q1 = 0
  rotate_left
  · have t21:(q1 != 0) = true:=bne_iff_ne.mpr h1
    have HE:=Lib.hid (E1.out h1)
    clear h1
    go_wp2_with (fail)
    go_ret3
    exact ⟨by rw [HE.out];rfl,D2.out⟩
  subst h1
  obtain ⟨x0,x1⟩:=X2.out.cells
  go_wp2_with (fail)
  refine (check_calls A0 c0 l0 a1 w2 (Kd.C_below HR.out D2.out) hc (by omega) HB.out.kids).mono ?_
  rintro e w3 ⟨rfl,hb3⟩
  have D3:=Lib.hid (below_step D2.out hb3)
  have X3:=Lib.hid (X2.out.below hb3)
  clear hb3 x0 x1 D2 X2
  generalize checkP l0 a1 = q2 at *
  obtain ⟨q2,q2b⟩:=q2
  by_cases h1:q2 = 0
  rotate_left
  · have t29:(q2 != 0) = true:=bne_iff_ne.mpr h1
    have HE:=Lib.hid (E2.out (by trivial) h1)
    clear h1
    go_wp2_with (fail)
    go_ret3
    exact ⟨by rw [HE.out];rfl,D3.out⟩
  subst h1
  obtain ⟨x0,x1⟩:=X3.out.cells
  go_wp2_with (fail)
  refine (is_calls A0 c0 l0 a1 w3 (Kd.C_below HR.out D3.out) hc (by omega) HB.out.kids).mono ?_
  rintro e w4 ⟨rfl,hb4⟩
  have D4:=Lib.hid (below_step D3.out hb4)
  have X4:=Lib.hid (X3.out.below hb4)
  clear hb4 x0 x1 D3 X3
  generalize isB l0 a1 = q3 at *
  cases q3 with
  | false =>
    have HE:=Lib.hid (E3.out (by trivial) (by trivial) (by trivial))
    go_wp2_with (fail)
    go_ret3
    exact ⟨by rw [HE.out];rfl,D4.out⟩
  | true =>
  have HZ:=Lib.hid (E4.out (by trivial) (by trivial) (by trivial))
  clear E1 E2 E3 E4
  obtain ⟨hPuts,_,_,_⟩:=puts_of (by omega) (by rw [kidN_sum];exact HB.out.kids) HZ.out
  have HPU:=Lib.hid hPuts
  clear hPuts
  go_wp2_with (fail)
  refine (Has.new D4.out).mono ?_
  rintro e w5 ⟨p,F,rfl,h5,_,hb5⟩
  have H5:=Lib.hid h5
  have X5:=Lib.hid (X4.out.below hb5)
  clear h5 hb5 D4 X4
  go_upto_region 11 with (fail)
  have hPS0:PS w (w5.alloc (.cells #[.pointer none,.slice none 0 0] 82)) F (one w5.heap.size) p w5.heap.size [] ⟨#[]⟩ :=
    ⟨H5.out.below ((Below.refl _ _).alloc (Nat.le_refl _) _),IsBd.new w5,fun k hk => by obtain rfl:k = w5.heap.size:=hk;exact blk_lt X5.out,fun k hk hb => by obtain rfl:k = w5.heap.size:=hb;exact absurd (H5.out.lt _ hk) (Nat.lt_irrefl _),by have:=blk_lt X5.out;simp;omega⟩
  have hX6:SB (w5.alloc (.cells #[.pointer none,.slice none 0 0] 82)) w.heap.size A0 l0.length c0 a1:=X5.out.below ((Below.refl _ _).alloc (Nat.le_refl _) _)
  have hbl:w.heap.size < w5.heap.size:=blk_lt X5.out
  generalize w5.alloc (.cells #[.pointer none,.slice none 0 0] 82) = w6 at *
  have P6:=Lib.hid hPS0
  have X6:=Lib.hid hX6
  obtain ⟨x0,x1⟩:=hX6.cells
  generalize w5.heap.size = b at *
  have hwk:IntKind.u64.wrap (l0.length:Int) = (l0.length:Int):=by rw [VM.u64_wrap];omega
  clear hPS0 hX6 H5 X5
  go_wp2_with (fail)
  try rw [hwk]
  refine (Cur.put_calls l0.length (by omega) _).mono ?_
  rintro e w7 ⟨rfl,hb7⟩
  have P7:=Lib.hid (P6.out.below hb7)
  have X7:=Lib.hid (X6.out.below hb7)
  have hps:=Cur.put_size_le (n:=l0.length) (by omega)
  have hp0:0 < (Cur.put l0.length).size:=by
    rw [Cur.put_size]
    exact List.length_pos_iff.2 (VM.enc_ne l0.length)
  have e_:(⟨#[]⟩:ByteArray).size = 0:=rfl
  clear hb7 x0 x1 P6 X6
  go_wp2_with (fail)
  refine (P7.out.write (Cur.put l0.length) (by omega)).mono ?_
  rintro e w8 ⟨rfl,m8,Fb8,h8⟩
  have X8:=Lib.hid (show SB w8 w.heap.size A0 l0.length c0 a1 from m8.keep X7.out (fun hk => by have:=P7.out.fb _ hk;omega))
  have hea:(⟨#[]⟩:ByteArray) ++ Cur.put l0.length = Cur.put l0.length:=(by first | exact ByteArray.empty_append | (ext1;simp))
  rw [hea] at h8
  have P8:=Lib.hid h8
  clear h8 m8 hea P7 X7
  obtain ⟨RB,hRB⟩:∃ z,z = recB 0 (Cur.put l0.length) [] l0:=⟨_,rfl⟩
  have HRB:=Lib.hid hRB.symm
  have HPE:=Lib.hid (show putN l0 a1 = (tabB RB.2,RB.1,0) by rw [putN_e4 HZ.out,← hRB])
  clear hRB
  generalize Cur.put l0.length = o8 at *
  obtain ⟨x0,x1⟩:=X8.out.cells
  go_wp2_with (fail)
  clear x0 x1
  go_loopg [11,12,13,14,44] l0.length (fun kq v11 v12 v13 v14 v44 wr => ∃ (i:Nat) (F Fb:Nat→Prop) (L:List ByteArray) (o:ByteArray) (x y z u:Value),v11 = x∧v12 = y∧v13 = z∧v14 = u∧v44 = .int .i64 (i:Int)∧i+kq = l0.length∧0 < o.size∧o.size≤10+20000100 * i∧Aside0 (PS w wr F Fb p b L o)∧Aside0 (recB i o L (l0.drop i) = RB)∧Aside0 (Puts i (l0.drop i))∧Aside0 (L = tabOf [] (txs (l0.take i))))
  case atStart => exact ⟨0,F,Fb8,[],o8,_,_,_,_,rfl,rfl,rfl,rfl,rfl,by omega,by omega,by omega,⟨P8.out⟩,⟨HRB.out⟩,⟨HPU.out⟩,⟨rfl⟩⟩
  case round =>
    clear P8 HPU X8
    obtain ⟨i,F,Fb,L,o,x,y,z,u,rfl,rfl,rfl,rfl,rfl,hik,ho0,ho1,hP,hRB,hPu,hL⟩:=hrel
    obtain ⟨wo,hwo⟩:∃ z,z = wr:=⟨_,rfl⟩
    subst hwo
    have hLs:=Lib.hid (show L.length≤800000∧total L≤100000000 by
      have h1:=tabOf_len (txs (l0.take i)) []
      have h2:=tabOf_total (txs (l0.take i)) []
      have h3:=txs_len l0 i
      have h4:=HB.out.txn
      have h5:=HB.out.txt
      have h6:total ([]:List ByteArray) = 0:=rfl
      rw [← hL.out] at h1 h2
      simp only [List.length_nil] at h1
      omega)
    by_cases hlt:(i:Int) < (l0.length:Int)
    · have t4:decide ((i:Int) < (l0.length:Int)) = true:=decide_eq_true hlt
      obtain ⟨ko,rfl⟩:∃ g,gk = g+1:=⟨gk - 1,by omega⟩
      have hil:i < l0.length:=by omega
      obtain ⟨ad,k,B1,d1,l1,B2,d2,l2,B3,d3,l3,rfl,hnd,x0,x1,x2,x3,hin⟩:=node_at HR.out hP.out.has.bel hil
      have hdr:l0.drop i = ⟨k,l1,l2,l3⟩ :: l0.drop (i+1):=by rw [List.drop_eq_getElem_cons hil,hnd]
      have hpu2:=hPu.out
      have hrb2:=hRB.out
      rw [hdr] at hpu2 hrb2
      obtain ⟨hE,hpu3⟩:=hpu2
      have hmem:(⟨k,l1,l2,l3⟩:S40) ∈ l0:=by rw [← hnd];exact List.getElem_mem _
      have HFI:=Lib.hid (HB.out.fit _ hmem)
      have HNU:=Lib.hid (HB.out.nums _ hmem)
      obtain ⟨hsz,hR2⟩:=putR_sz (L:=L) HFI.out HNU.out.1 hE (by omega) (by have:=hLs.out.1;omega)
      have HL2:=Lib.hid (show tabOf L l2 = tabOf [] (txs (l0.take (i+1))) by rw [txs_take hil,hnd,tabOf_append,← hL.out])
      have HPU2:=Lib.hid hpu3
      have HIN:=Lib.hid hin
      have HR2:=Lib.hid hR2
      have HRB2:=Lib.hid (show recB (i+1) (o ++ (putR k l1 l2 l3 (i:Int) L).1) (putR k l1 l2 l3 (i:Int) L).2.1 (l0.drop (i+1)) = RB from hrb2)
      clear hnd hdr hpu3 hrb2 hE hmem hin hR2 hPu hRB
      go_upto_region 15 with (fail)
      obtain ⟨hx,hd⟩:=NBox.new wo k (.slice B1 l1.length d1) (.slice B2 l2.length d2) (.slice B3 l3.length d3)
      clear x0 x1 x2 x3
      generalize wo.alloc (.cells #[.int .i64 k,.slice B1 l1.length d1,.slice B2 l2.length d2,.slice B3 l3.length d3] 40) = w10 at hx hd ⊢
      have P10:=Lib.hid (hP.out.below hd)
      obtain ⟨x0,x1,x2,x3⟩:=hx.cells
      clear hx hd
      go_wp2_with (fail)
      refine (P10.out.rput k (i:Int) HT.out HIN.out HFI.out HNU.out.1 HNU.out.2 (by omega) (by have:=hLs.out.1;omega) (by have:=hLs.out.2;omega)).mono ?_
      have hR21:(putR k l1 l2 l3 (i:Int) L).2.1 = tabOf L l2:=by rw [HR2.out]
      have hR22:(putR k l1 l2 l3 (i:Int) L).2.2 = 0:=by rw [HR2.out]
      rw [hR21,hR22]
      have HRB3:=HRB2.out
      rw [hR21] at HRB3
      have HRB4:=Lib.hid HRB3
      clear HRB3 HRB2 hR21 hR22 HR2
      generalize (putR k l1 l2 l3 (i:Int) L).1 = bp at *
      rintro e w11 ⟨rfl,F2,h11⟩
      have P11:=Lib.hid h11
      clear h11 x0 x1 x2 x3
      go_wp2_with (fail)
      refine (P11.out.write bp (by omega)).mono ?_
      rintro e w12 ⟨rfl,_,Fb2,h12⟩
      have P12:=Lib.hid h12
      have hsa:(o ++ bp).size = o.size+bp.size:=ByteArray.size_append
      clear h12
      go_wp2_with (fail)
      go_roundg ko
      case measure => omega
      case rel => exact ⟨i+1,F2,Fb2,_,o ++ bp,_,_,_,_,rfl,rfl,rfl,rfl,by first | rfl | (congr 1;omega),by omega,by omega,by omega,⟨P12.out⟩,⟨HRB4.out⟩,⟨HPU2.out⟩,⟨HL2.out⟩⟩
    · have t4:decide ((i:Int) < (l0.length:Int)) = false:=decide_eq_false hlt
      have HRB5:=Lib.hid (show (o,L) = RB by rw [← hRB.out,List.drop_of_length_le (by omega)];rfl)
      have HE:=Lib.hid (show putN l0 a1 = (tabB L,o,0) by rw [HPE.out,← HRB5.out])
      clear hRB hPu hL
      go_wp2_with (fail)
      refine (hP.out.has.put (by have:=hLs.out.1;omega) (by have:=hLs.out.2;omega)).mono ?_
      rintro e w13 ⟨rfl,_,hb13⟩
      have P13:=Lib.hid (hP.out.below hb13)
      clear hb13
      go_wp2_with (fail)
      refine (string_calls Fb b o w13 P13.out.bd (by omega)).mono ?_
      rintro e w14 ⟨rfl,m14⟩
      have HBL:=Lib.hid (((Mv.of_below (S:=Fb) P13.out.has.bel).trans m14 (fun k hk => .inl hk)).below (fun k hk => Nat.le_of_lt (P13.out.fb k hk)))
      clear m14
      go_wp2_with (fail)
      go_ret3
      exact ⟨by rw [HE.out];rfl,HBL.out⟩
end
end Go.Proofs.YtoigkneoaemcfaaDoor.Nd
