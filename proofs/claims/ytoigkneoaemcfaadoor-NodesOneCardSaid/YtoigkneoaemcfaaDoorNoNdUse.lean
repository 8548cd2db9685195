import Derived.Test.YtoigkneoaemcfaaDoorNoNdPut
namespace Go.Proofs.YtoigkneoaemcfaaDoor.Nd
open Go.RowKit Go.Lib Go.Proofs.YtoigkneoaemcfaaDoorW.PrintWords Go.Proofs.YtoigkneoaemcfaaDoorW.PrintLast Go.Proofs.YtoigkneoaemcfaaDoorW.PrintMore Go.Proofs.YtoigkneoaemcfaaDoor.B Go.Proofs.YtoigkneoaemcfaaDoor.Bd Go.Proofs.YtoigkneoaemcfaaDoor.Tab Go.Proofs.YtoigkneoaemcfaaDoor.Rec
open Go.Proofs.YtoigkneoaemcfaaDoor.GN (S40 rd_T40 k40 kidsI checkP cl H)
set_option linter.unusedVariables false
set_option linter.unusedSimpArgs false
theorem tab_bound {l0:List (S40)} (hB:Big l0) {l:List ByteArray} (h:l.length≤(txs l0).length∧total l≤total (txs l0)):(tabOf [] l).length≤800000∧total (tabOf [] l)≤100000000:=by
  have h1:=tabOf_len l []
  have h2:=tabOf_total l []
  have h4:=hB.txn
  have h5:=hB.txt
  have h6:total ([]:List ByteArray) = 0:=rfl
  simp only [List.length_nil] at h1
  omega
theorem txs_upto {l0:List (S40)} {i:Nat} (hi:i < l0.length) (j:Nat):(txs (l0.take i) ++ l0[i].f2.take j).length≤(txs l0).length∧total (txs (l0.take i) ++ l0[i].f2.take j)≤total (txs l0):=by
  have h1:=txs_len l0 (i+1)
  rw [txs_take hi,List.length_append,total_append] at h1
  have h2:total l0[i].f2 = total (l0[i].f2.take j)+total (l0[i].f2.drop j):=by rw [← total_append,List.take_append_drop]
  rw [List.length_append,total_append,List.length_take]
  omega
section
variable (A0:Option Addr) (c0:Nat) (l0:List (S40)) (a1:Int) (w:World)
set_option maxHeartbeats 8000000 in
set_option maxRecDepth 100000 in
theorem used_calls {F:Nat→Prop} {p:Nat} {L:List ByteArray} (hr:Kd.C k40 w A0 l0.length l0) (hB:Big l0) (hT:IsTab w F p L) (hL:L.length≤1000000) (hLt:total L≤1000000000) :
    Calls Tryd.prog 36 #[.agg #[.slice A0 l0.length c0,.int .i64 a1],.pointer (some ⟨p,0,none⟩)] w fun e w' => e = .returned (.bool ((tabB (tabOf [] (txs l0))).toList == (tabB L).toList))∧Below w.heap.size w w':=by
  have HR:=Lib.hid hr
  have HB:=Lib.hid hB
  have HT:=Lib.hid hT
  have hn:=hB.len
  clear hr hB hT
  go_enter Tryd.func36,Tryd.ntmps36
  go_wp2_with (fail)
  obtain ⟨hx,hd⟩:=SB.new w A0 l0.length c0 a1
  generalize w.alloc (.cells #[.slice A0 l0.length c0,.int .i64 a1] 27) = w1 at hx hd ⊢
  have D1:=Lib.hid hd
  have X1:=Lib.hid hx
  clear hx hd
  go_wp2_with (fail)
  refine (Has.new D1.out).mono ?_
  rintro e w2 ⟨q,F1,rfl,h2,_,hb2⟩
  have H2:=Lib.hid h2
  obtain ⟨x0,x1⟩:=(X1.out.below hb2).cells
  clear h2 hb2 D1 X1
  go_wp2_with (fail)
  clear x0 x1
  go_loopg [7,9,14] l0.length (fun kq v7 v9 v14 wr => ∃ (i:Nat) (F1:Nat→Prop) (x y:Value),v7 = x∧v9 = y∧v14 = .int .i64 (i:Int)∧i+kq = l0.length∧Aside0 (Has w wr F1 q (tabOf [] (txs (l0.take i)))))
  case atStart => exact ⟨0,F1,_,_,rfl,rfl,rfl,by omega,⟨H2.out⟩⟩
  case round =>
    clear H2
    obtain ⟨i,F1,x,y,rfl,rfl,rfl,hik,hH⟩:=hrel
    obtain ⟨wo,hwo⟩:∃ z,z = wr:=⟨_,rfl⟩
    subst hwo
    by_cases hlt:(i:Int) < (l0.length:Int)
    · have t4:decide ((i:Int) < (l0.length:Int)) = true:=decide_eq_true hlt
      obtain ⟨ko,rfl⟩:∃ g,gk = g+1:=⟨gk - 1,by omega⟩
      have hil:i < l0.length:=by omega
      obtain ⟨ad,k,B1,d1,l1,B2,d2,l2,B3,d3,l3,rfl,hnd,x0,x1,x2,x3,hin⟩:=node_at HR.out hH.out.bel hil
      have HIN:=Lib.hid hin
      have hmem:(⟨k,l1,l2,l3⟩:S40) ∈ l0:=by rw [← hnd];exact List.getElem_mem _
      have HFI:=Lib.hid (HB.out.fit _ hmem)
      have HUP:=Lib.hid (fun j => tab_bound HB.out (txs_upto hil j))
      rw [hnd] at HUP
      have HNX:=Lib.hid (show txs (l0.take (i+1)) = txs (l0.take i) ++ l2 by rw [txs_take hil,hnd])
      have hn2:=HFI.out.n2
      simp only at hn2
      clear hnd hin hmem
      go_upto_region 5 with (fail)
      obtain ⟨hx,hd⟩:=NBox.new wo k (.slice B1 l1.length d1) (.slice B2 l2.length d2) (.slice B3 l3.length d3)
      clear x0 x1 x2 x3
      generalize wo.alloc (.cells #[.int .i64 k,.slice B1 l1.length d1,.slice B2 l2.length d2,.slice B3 l3.length d3] 40) = w3 at hx hd ⊢
      have H3:=Lib.hid (hH.out.below hd)
      obtain ⟨x0,x1,x2,x3⟩:=hx.cells
      generalize txs (l0.take i) = T0 at *
      clear hx hd hH
      go_wp2_with (fail)
      clear x0 x1 x2 x3
      go_loopg [9,21] l2.length (fun kq v9 v21 wq => ∃ (j:Nat) (F1:Nat→Prop) (x:Value),v9 = x∧v21 = .int .i64 (j:Int)∧j+kq = l2.length∧Aside0 (Has w wq F1 q (tabOf [] (T0 ++ l2.take j))))
      case atStart => exact ⟨0,F1,_,rfl,rfl,by omega,⟨by rw [List.take_zero,List.append_nil];exact H3.out⟩⟩
      case round =>
        clear H3
        obtain ⟨j,F1,x,rfl,rfl,hjk,hH⟩:=hrel
        obtain ⟨wi,hwi⟩:∃ z,z = wr:=⟨_,rfl⟩
        subst hwi
        by_cases hjl:(j:Int) < (l2.length:Int)
        · have t5:decide ((j:Int) < (l2.length:Int)) = true:=decide_eq_true hjl
          obtain ⟨kq,rfl⟩:∃ g,gk = g+1:=⟨gk - 1,by omega⟩
          obtain ⟨a2,e,u1⟩:=Kd.at_string (HIN.out.below hH.out.bel).r2 (j:Int) (by omega) hjl
          subst e
          rw [Int.toNat_natCast] at u1
          have hdr:=txt_at (l:=l2) (i:=j) (by omega)
          have HSZ:=Lib.hid (HFI.out.s2 (rdOf ByteArray.empty l2 (j:Int)) (List.mem_of_mem_drop (i:=j) (by rw [hdr];exact List.mem_cons_self)))
          have HST:=Lib.hid (show tabOf [] (T0 ++ l2.take (j+1)) = (Tab.intern (tabOf [] (T0 ++ l2.take j)) (rdOf ByteArray.empty l2 (j:Int))).1 by
            have e:l2.take (j+1) = l2.take j ++ [rdOf ByteArray.empty l2 (j:Int)]:=by
              rw [List.take_succ_eq_append_getElem (by omega)]
              congr 2
              rw [List.drop_eq_getElem_cons (by omega)] at hdr
              exact (List.cons.inj hdr).1
            rw [e,← List.append_assoc,tabOf_append]
            rfl)
          have hbd:=HUP.out j
          clear hdr
          generalize rdOf ByteArray.empty l2 (j:Int) = s at *
          generalize tabOf [] (T0 ++ l2.take j) = L1 at *
          have hbd':L1.length≤800000∧total L1≤100000000:=hbd
          clear hbd
          go_wp2_with (fail)
          refine (hH.out.intern s (by have:=HSZ.out;omega) (by omega) (by omega)).mono ?_
          rintro e w4 ⟨rfl,F2,h4,_,_⟩
          have H4:=Lib.hid h4
          clear h4 hH
          go_wp2_with (fail)
          go_roundg kq
          case measure => omega
          case rel => exact ⟨j+1,F2,_,rfl,by first | rfl | (congr 1;omega),by omega,⟨by rw [HST.out];exact H4.out⟩⟩
        · have t5:decide ((j:Int) < (l2.length:Int)) = false:=decide_eq_false hjl
          have HH2:=Lib.hid (show Has w wi F1 q (tabOf [] (txs (l0.take (i+1)))) by
            have h:=hH.out
            rw [show l2.take j = l2 from List.take_of_length_le (by omega)] at h
            rw [HNX.out]
            exact h)
          clear hH
          go_wp2_with (fail)
          go_roundg ko
          case measure => omega
          case rel => exact ⟨i+1,F1,_,_,rfl,rfl,by first | rfl | (congr 1;omega),by omega,⟨HH2.out⟩⟩
    · have t4:decide ((i:Int) < (l0.length:Int)) = false:=decide_eq_false hlt
      have HH2:=Lib.hid (show Has w wo F1 q (tabOf [] (txs l0)) by
        have h:=hH.out
        rw [show l0.take i = l0 from List.take_of_length_le (by omega)] at h
        exact h)
      have hbd:=tab_bound HB.out (l:=txs l0) ⟨Nat.le_refl _,Nat.le_refl _⟩
      obtain ⟨U,hU⟩:∃ U,U = tabOf [] (txs l0):=⟨_,rfl⟩
      rw [← hU] at HH2 hbd
      have HU:=Lib.hid hU
      clear hH hU
      go_wp2_with (fail)
      refine (HH2.out.put (by omega) (by omega)).mono ?_
      rintro e w5 ⟨rfl,h5,_⟩
      have H5:=Lib.hid h5
      clear h5
      go_wp2_with (fail)
      refine (Tab.put_calls F p L w5 (HT.out.below H5.out.bel) hL hLt).mono ?_
      rintro e w6 ⟨rfl,hb6⟩
      have HB6:=Lib.hid (below_step H5.out.bel hb6)
      clear hb6
      go_wp2_with (fail)
      go_ret
      exact ⟨by rw [← HU.out];rfl,HB6.out⟩
end
end Go.Proofs.YtoigkneoaemcfaaDoor.Nd
