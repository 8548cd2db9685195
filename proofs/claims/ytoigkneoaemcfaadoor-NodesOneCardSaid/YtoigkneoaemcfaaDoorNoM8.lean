/- Texts of the claim, one behind the other. -/
import Derived.Test.YtoigkneoaemcfaaDoorNoRecP
import Derived.Test.YtoigkneoaemcfaaDoorNoM5
import Derived.Test.YtoigkneoaemcfaaDoorNoDCurC
import Derived.Test.YtoigkneoaemcfaaDoorNoM0
import Derived.Test.YtoigkneoaemcfaaDoorNoGNx1
namespace Go.Proofs.YtoigkneoaemcfaaDoor.Rec
open Go.RowKit Go.Lib Go.Proofs.YtoigkneoaemcfaaDoorW.PrintWords Go.Proofs.YtoigkneoaemcfaaDoorW.PrintLast Go.Proofs.YtoigkneoaemcfaaDoorW.PrintMore Go.Proofs.YtoigkneoaemcfaaDoor.B Go.Proofs.YtoigkneoaemcfaaDoor.Tab Go.Proofs.YtoigkneoaemcfaaDoor.VM Go.Proofs.YtoigkneoaemcfaaDoor.GN
set_option linter.unusedVariables false
set_option linter.unusedSimpArgs false
theorem bI_size:∀ (l:List Int) (o:ByteArray),I64 l→(bI o l).size≤o.size+10 * l.length∧o.size≤(bI o l).size
  | [],o,_ => by simp [bI]
  | x :: l,o,h => by
    have hx:=h x List.mem_cons_self
    have hz:=Cur.zg_nonneg x
    have h1:=bI_size l (o ++ Cur.put (Cur.zg x).toNat) (fun y hy => h y (List.mem_cons_of_mem _ hy))
    have h2:=Cur.put_size_le (n:=(Cur.zg x).toNat) (by unfold Cur.zg at hz ⊢;split <;> omega)
    rw [ByteArray.size_append] at h1
    rw [bI,List.length_cons];omega
theorem bT_size:∀ (l:List ByteArray) (o:ByteArray) (L:List ByteArray),L.length+l.length≤1000000000→(bT o L l).1.size≤o.size+10 * l.length∧o.size≤(bT o L l).1.size
  | [],o,L,_ => by simp [bT]
  | x :: l,o,L,h => by
    rw [List.length_cons] at h
    have h3:=(intern_len L x).1
    have h1:=bT_size l (o ++ Cur.put (intern L x).2) (intern L x).1 (by omega)
    have h4:=intern_lt L x
    have h2:=Cur.put_size_le (n:=(intern L x).2) (by omega)
    rw [ByteArray.size_append] at h1
    rw [bT,List.length_cons];omega
theorem bK_moved (at' by':Int):∀ (l:List Int) (o:ByteArray),bK (at'+by') o (l.map (·+by')) = bK at' o l
  | [],o => rfl
  | q :: l,o => by rw [List.map_cons,bK,bK,show at'+by' - (q+by') = at' - q by omega,bK_moved at' by' l]
end Go.Proofs.YtoigkneoaemcfaaDoor.Rec
namespace Go.Proofs.YtoigkneoaemcfaaDoor.Tab
open Go.RowKit Go.Lib Go.Proofs.YtoigkneoaemcfaaDoorW.PrintWords Go.Proofs.YtoigkneoaemcfaaDoorW.PrintLast Go.Proofs.YtoigkneoaemcfaaDoorW.PrintMore Go.Proofs.YtoigkneoaemcfaaDoor.B Go.Proofs.YtoigkneoaemcfaaDoor.Bd
set_option linter.unusedVariables false
set_option linter.unusedSimpArgs false
def getStep (bad:ByteArray→Bool) (most:Int) (c:Cur.Cur) (l:List ByteArray):Cur.Cur × List ByteArray :=
  if (c.text (most - total l)).2.e≠0 then ((c.text (most - total l)).2,l)
  else if bad (c.text (most - total l)).1 = true then ((c.text (most - total l)).2.fail 11,l)
  else if (c.text (most - total l)).1 ∈ l then ((c.text (most - total l)).2.fail 17,l)
  else ((c.text (most - total l)).2,l ++ [(c.text (most - total l)).1])
def getL (bad:ByteArray→Bool) (most:Int):Nat→Cur.Cur→List ByteArray→Cur.Cur × List ByteArray
  | 0,c,l => (c,l)
  | n+1,c,l => if c.e≠0 then (c,l) else getL bad most n (getStep bad most c l).1 (getStep bad most c l).2
theorem getL_err (bad:ByteArray→Bool) (most:Int) (n:Nat) (c:Cur.Cur) (l:List ByteArray) (h:c.e≠0):getL bad most n c l = (c,l):=by
  cases n with
  | zero => rfl
  | succ n => rw [getL,if_pos h]
def getC (bad:ByteArray→Bool) (b:ByteArray) (texts bytes:Int):Cur.Cur × List ByteArray :=
  getL bad (max bytes 0) ((Cur.new b).uint (max texts 0)).1.toNat ((Cur.new b).uint (max texts 0)).2 []
def getE (bad:ByteArray→Bool) (b:ByteArray) (texts bytes:Int):Int × List ByteArray :=
  (((if (getC bad b texts bytes).1.left > 0 then (getC bad b texts bytes).1.fail 8 else (getC bad b texts bytes).1)).e,(getC bad b texts bytes).2)
theorem text_size (c:Cur.Cur) (n:Int):(c.text n).1.size≤c.b.size:=by
  have hb:∀ (c':Cur.Cur) (m:Int),(c'.bytes m).1.size≤c'.b.size:=fun c' m => by
    have e_:(⟨#[]⟩:ByteArray).size = 0:=rfl
    unfold Cur.Cur.bytes
    split
    · show (⟨#[]⟩:ByteArray).size≤_;omega
    split
    · show (⟨#[]⟩:ByteArray).size≤_;omega
    split
    · show (⟨#[]⟩:ByteArray).size≤_;omega
    · simp only [ByteArray.size_extract];omega
  have e_:(⟨#[]⟩:ByteArray).size = 0:=rfl
  unfold Cur.Cur.text
  by_cases he:c.e≠0
  · rw [if_pos he];show (⟨#[]⟩:ByteArray).size≤_;omega
  · rw [if_neg he]
    have:=hb (c.uint (if n < 0 then 0 else n)).2 (c.uint (if n < 0 then 0 else n)).1
    rw [Cur.uint_b] at this
    unfold Cur.Cur.textOf
    by_cases h2:((c.uint (if n < 0 then 0 else n)).2.bytes (c.uint (if n < 0 then 0 else n)).1).2.e≠0
    · rw [if_pos h2];show (⟨#[]⟩:ByteArray).size≤_;omega
    · rw [if_neg h2];exact this
def GetPost (bad:ByteArray→Bool) (b:ByteArray) (texts bytes:Int) (w:World) (e:Ending) (w':World):Prop:=Below w.heap.size w w' ∧
  (if (getE bad b texts bytes).1 = 0 then ∃ p F,e = .returned (.tuple #[.pointer (some ⟨p,0,none⟩),.int .i64 0])∧IsTab w' F p (getE bad b texts bytes).2∧(∀ k,F k→w.heap.size≤k)
    else e = .returned (.tuple #[.pointer none,.int .i64 (getE bad b texts bytes).1]))
section
variable (bad:ByteArray→Bool)
set_option maxHeartbeats 4000000 in
set_option maxRecDepth 100000 in
theorem get_calls (hbad:∀ (s:ByteArray) (w:World),s.size≤1000000→(∀ w',Below w.heap.size w w'→Lib.Utf8Tabs 0 1 w')→Calls Tryd.prog 66 #[.string s] w fun e w' => ∃ r:Int,e = .returned (.int .i64 r)∧decide (r ≥ 0) = bad s∧Below w.heap.size w w')
    (b:ByteArray) (texts bytes:Int) (w:World) (ht:∀ w',Below w.heap.size w w'→Lib.Utf8Tabs 0 1 w') (hb:b.size≤1000000) (t0:-9223372036854775808≤texts) (t1:texts≤9223372036854775807) (b0:-9223372036854775808≤bytes) (b1:bytes≤9223372036854775807) :
    Calls Tryd.prog 31 #[.string b,.int .i64 texts,.int .i64 bytes] w fun e w' => GetPost bad b texts bytes w e w':=by
  have HT:=Lib.hid ht
  clear ht
  have hu1:IntKind.u64.wrap (max texts 0) = max texts 0:=by rw [VM.u64_wrap];omega
  go_enter Tryd.func31,Tryd.ntmps31
  go_wp2_with (fail)
  refine (Cur.new_calls b _).mono ?_
  rintro e w1 ⟨rfl,hc1,hb1⟩
  have HC1:=Lib.hid hc1
  have HB1:=Lib.hid hb1
  clear hc1 hb1
  go_wp2_with (fail)
  refine (new_calls _).mono ?_
  rintro e w2 ⟨p,F,rfl,hT2,hF2,hb2⟩
  have hgp:∀ k,F k→k≠w.heap.size:=fun k hk e => by have:=hF2 k hk;have:=HC1.out.lt;omega
  have HC2:=Lib.hid (HC1.out.below hb2)
  have HB2:=Lib.hid (below_step HB1.out hb2)
  have HT2:=Lib.hid hT2
  have HF2:=Lib.hid (show ∀ k,F k→w.heap.size < k from fun k hk => Nat.lt_of_lt_of_le HC1.out.lt (hF2 k hk))
  clear hT2 hF2 hb2 hgp
  go_wp2_with (fail)
  try rw [hu1]
  refine (Cur.uint_calls w.heap.size (Cur.new b) (max texts 0) _ HC2.out (Cur.new_ok (by omega)) (by omega)).mono ?_
  rintro e w3 ⟨rfl,hC3,hM3⟩
  have hf0:∀ k,F k→¬ one w.heap.size k:=fun k hk e => by have:=HF2.out k hk;have e2:k = w.heap.size:=e;omega
  have HT3:=Lib.hid (HT2.out.mv hM3 hf0)
  have HB3:=Lib.hid (((Mv.of_below (S:=one w.heap.size) HB2.out).trans hM3 (fun k hk => .inl hk)).below (fun k hk => by obtain rfl:k = w.heap.size:=hk;exact Nat.le_refl _))
  have hr:=Cur.uint_range (c:=Cur.new b) (max texts 0)
  have hok3:=Cur.uint_ok (c:=Cur.new b) (Cur.new_ok (by omega)) (max texts 0)
  have hbb3:((Cur.new b).uint (max texts 0)).2.b = b:=Cur.uint_b (max texts 0)
  have HG:=Lib.hid (show getL bad (max bytes 0) ((Cur.new b).uint (max texts 0)).1.toNat ((Cur.new b).uint (max texts 0)).2 [] = getC bad b texts bytes from rfl)
  obtain ⟨n0,hn0⟩:=Int.eq_ofNat_of_zero_le hr.1
  have HC3:=Lib.hid hC3
  clear hC3 hM3 hf0
  generalize ((Cur.new b).uint (max texts 0)).2 = c3 at *
  rw [hn0] at HG hr ⊢
  rw [Int.toNat_natCast] at HG
  clear hn0
  go_wp2_with (fail)
  go_loopg [10,11,42,46,52] n0 (fun kq v10 v11 v42 v46 v52 wr => ∃ (c:Cur.Cur) (l:List ByteArray) (F':Nat→Prop) (x y z u:Value),v10 = .int .i64 (kq:Int)∧v11 = x∧v42 = y∧v46 = z∧v52 = u∧l.length+kq≤16777216∧total l≤l.length * 1000000∧c.ok∧c.b = b∧Aside0 (Cur.IsC wr w.heap.size c)∧Aside0 (IsTab wr F' p l)∧Aside0 (∀ k,F' k→w.heap.size < k)∧Aside0 (Below w.heap.size w wr)∧Aside0 (getL bad (max bytes 0) kq c l = getC bad b texts bytes))
  case atStart => exact ⟨c3,[],F,_,_,_,_,rfl,rfl,rfl,rfl,rfl,by simp;omega,by simp [total],hok3,hbb3,⟨HC3.out⟩,⟨HT3.out⟩,⟨HF2.out⟩,⟨HB3.out⟩,⟨HG.out⟩⟩
  case round =>
    obtain ⟨c,l,F',x,y,z,u,rfl,rfl,rfl,rfl,rfl,hlk,htl,hok,hcb,hC,hTb,hFf,hW,hG⟩:=hrel
    obtain ⟨wo,hwo⟩:∃ z,z = wr:=⟨_,rfl⟩
    subst hwo
    by_cases h0:gk = 0
    · subst h0
      have t4:decide (((0:Nat):Int) > 0) = false:=by decide
      have hgc:getC bad b texts bytes = (c,l):=hG.out.symm
      go_wp2_with (fail)
      have hE0:getE bad b texts bytes = ((if c.left > 0 then c.fail 8 else c).e,l):=by unfold getE;rw [hgc]
      refine (Cur.left_calls w.heap.size c _ hC.out hok).mono ?_
      rintro e w4 ⟨rfl,hd4⟩
      have HC4:=Lib.hid (hC.out.drawn hd4)
      have HB4:=Lib.hid (below_step hW.out hd4.below)
      have HT4:=Lib.hid (hTb.out.below hd4.below)
      clear hd4
      by_cases hl:c.left > 0
      · have t60:decide (c.left > 0) = true:=decide_eq_true hl
        have hne:(c.fail 8).e≠0:=by unfold Cur.Cur.fail;split <;> simp_all
        have t66:((c.fail 8).e != 0) = true:=bne_iff_ne.mpr hne
        obtain ⟨c8,hc8⟩:∃ z,z = c.fail 8:=⟨_,rfl⟩
        rw [if_pos hl,← hc8] at hE0
        rw [← hc8] at hne t66
        have HE0:=Lib.hid hE0
        have H8:=Lib.hid hc8
        clear hE0 hgc hc8
        go_wp2_with (fail)
        refine (Cur.fail_calls w.heap.size c 8 _ HC4.out).mono ?_
        rintro e w5 ⟨rfl,hC5,hM5⟩
        have HB5:=Lib.hid (((Mv.of_below (S:=one w.heap.size) HB4.out).trans hM5 (fun k hk => .inl hk)).below (fun k hk => by obtain rfl:k = w.heap.size:=hk;exact Nat.le_refl _))
        rw [← H8.out] at hC5
        have HC5:=Lib.hid hC5
        clear hC5 hM5
        go_wp2_with (fail)
        refine (Cur.err_calls w.heap.size c8 _ HC5.out).mono ?_
        rintro e w6 ⟨rfl,rfl⟩
        go_wp2_with (fail)
        go_ret2
        exact And.intro HB5.out (by rw [HE0.out,if_neg hne];rfl)
      · have t60:decide (c.left > 0) = false:=decide_eq_false hl
        rw [if_neg hl] at hE0
        have HE0:=Lib.hid hE0
        clear hE0 hgc
        go_wp2_with (fail)
        refine (Cur.err_calls w.heap.size c _ HC4.out).mono ?_
        rintro e w6 ⟨rfl,rfl⟩
        by_cases hne:c.e = 0
        · have t66:(c.e != 0) = false:=by simpa using hne
          go_wp2_with (fail)
          go_ret2
          exact And.intro HB4.out (by rw [HE0.out,if_pos hne];exact ⟨p,F',rfl,HT4.out,fun k hk => Nat.le_of_lt (hFf.out k hk)⟩)
        · have t66:(c.e != 0) = true:=bne_iff_ne.mpr hne
          go_wp2_with (fail)
          go_ret2
          exact And.intro HB4.out (by rw [HE0.out,if_neg hne];rfl)
    · obtain ⟨ko,rfl⟩:∃ g,gk = g+1:=⟨gk - 1,by omega⟩
      have t4:decide (((ko+1:Nat):Int) > 0) = true:=decide_eq_true (by omega)
      go_wp2_with (fail)
      refine (Cur.err_calls w.heap.size c _ hC.out).mono ?_
      rintro e w3 ⟨rfl,rfl⟩
      by_cases he:c.e = 0
      · have t26:(c.e == 0) = true:=by simpa using he
        have ct:wo.cell? ⟨p,2,none⟩ = some (.int .i64 (total l:Int)):=by obtain ⟨b',v',hp,_⟩:=hTb.out;exact (blk_cell hp 2).trans rfl
        have hw37:IntKind.i64.wrap (max bytes 0 - (total l:Int)) = max bytes 0 - (total l:Int):=by rw [IntKind.wrap_i64];omega
        go_wp2_with (fail)
        try rw [hw37]
        refine (Cur.text_calls w.heap.size c (max bytes 0 - (total l:Int)) _ hC.out hok (by omega) (by omega)).mono ?_
        rintro e w4 ⟨rfl,hC4,hM4⟩
        have hf4:∀ k,F' k→¬ one w.heap.size k:=fun k hk e => by have:=hFf.out k hk;have e2:k = w.heap.size:=e;omega
        have HT4:=Lib.hid (hTb.out.mv hM4 hf4)
        have HB4:=Lib.hid (((Mv.of_below (S:=one w.heap.size) hW.out).trans hM4 (fun k hk => .inl hk)).below (fun k hk => by obtain rfl:k = w.heap.size:=hk;exact Nat.le_refl _))
        have HC4:=Lib.hid hC4
        have hok4:=Cur.text_ok hok (max bytes 0 - (total l:Int))
        have hb4:(c.text (max bytes 0 - (total l:Int))).2.b = b:=(Cur.text_b _).trans hcb
        have hs4:=text_size c (max bytes 0 - (total l:Int))
        rw [hcb] at hs4
        have HS:=Lib.hid (show getL bad (max bytes 0) ko (getStep bad (max bytes 0) c l).1 (getStep bad (max bytes 0) c l).2 = getC bad b texts bytes from by rw [← hG.out,getL,if_neg (by simpa using he)])
        have HQ:Hid (getStep bad (max bytes 0) c l = if (c.text (max bytes 0 - (total l:Int))).2.e≠0 then ((c.text (max bytes 0 - (total l:Int))).2,l) else if bad (c.text (max bytes 0 - (total l:Int))).1 = true then ((c.text (max bytes 0 - (total l:Int))).2.fail 11,l) else if (c.text (max bytes 0 - (total l:Int))).1 ∈ l then ((c.text (max bytes 0 - (total l:Int))).2.fail 17,l) else ((c.text (max bytes 0 - (total l:Int))).2,l ++ [(c.text (max bytes 0 - (total l:Int))).1])):=Lib.hid rfl
        clear hC4 hM4 hf4 ct hw37
        generalize (c.text (max bytes 0 - (total l:Int))).2 = c4 at *
        generalize (c.text (max bytes 0 - (total l:Int))).1 = s at *
        have hk1:((ko+1:Nat):Int) - 1 = (ko:Int):=by omega
        go_wp2_with (fail)
        refine (Cur.err_calls w.heap.size c4 _ HC4.out).mono ?_
        rintro e w5 ⟨rfl,rfl⟩
        by_cases he4:c4.e = 0
        · have t45:(c4.e != 0) = false:=by simpa using he4
          go_wp2_with (fail)
          refine (hbad s _ (by omega) (fun w' hb => HT.out w' (below_step HB4.out hb))).mono ?_
          rintro e w6 ⟨r,rfl,hr,hb6⟩
          have HC6:=Lib.hid (HC4.out.below hb6)
          have HT6:=Lib.hid (HT4.out.below hb6)
          have HB6:=Lib.hid (below_step HB4.out hb6)
          clear hb6
          by_cases hbs:bad s = true
          · have t49:decide (r ≥ 0) = true:=hr.trans hbs
            go_wp2_with (fail)
            refine (Cur.fail_calls w.heap.size c4 11 _ HC6.out).mono ?_
            rintro e w7 ⟨rfl,hC7,hM7⟩
            have HT7:=Lib.hid (HT6.out.mv hM7 (fun k hk e => by have:=hFf.out k hk;have e2:k = w.heap.size:=e;omega))
            have HB7:=Lib.hid (((Mv.of_below (S:=one w.heap.size) HB6.out).trans hM7 (fun k hk => .inl hk)).below (fun k hk => by obtain rfl:k = w.heap.size:=hk;exact Nat.le_refl _))
            have HC7:=Lib.hid hC7
            clear hC7 hM7
            go_wp2_with (fail)
            go_roundg ko
            case measure => omega
            case rel => exact ⟨c4.fail 11,l,F',_,_,_,_,by first | rfl | (congr 1;omega),rfl,rfl,rfl,rfl,by omega,htl,Cur.fail_ok hok4 11,(Cur.fail_b 11).trans hb4,⟨HC7.out⟩,⟨HT7.out⟩,hFf,⟨HB7.out⟩,⟨by have:=HS.out;rw [HQ.out,if_neg (by simpa using he4),if_pos hbs] at this;exact this⟩⟩
          · have t49:decide (r ≥ 0) = false:=hr.trans (by simpa using hbs)
            go_wp2_with (fail)
            refine (has_calls F' p l s _ HT6.out (by omega)).mono ?_
            rintro e w7 ⟨rfl,rfl⟩
            by_cases hsl:s ∈ l
            · have t52:decide (s ∈ l) = true:=decide_eq_true hsl
              go_wp2_with (fail)
              refine (Cur.fail_calls w.heap.size c4 17 _ HC6.out).mono ?_
              rintro e w8 ⟨rfl,hC7,hM7⟩
              have HT7:=Lib.hid (HT6.out.mv hM7 (fun k hk e => by have:=hFf.out k hk;have e2:k = w.heap.size:=e;omega))
              have HB7:=Lib.hid (((Mv.of_below (S:=one w.heap.size) HB6.out).trans hM7 (fun k hk => .inl hk)).below (fun k hk => by obtain rfl:k = w.heap.size:=hk;exact Nat.le_refl _))
              have HC7:=Lib.hid hC7
              clear hC7 hM7
              go_wp2_with (fail)
              go_roundg ko
              case measure => omega
              case rel => exact ⟨c4.fail 17,l,F',_,_,_,_,by first | rfl | (congr 1;omega),rfl,rfl,rfl,rfl,by omega,htl,Cur.fail_ok hok4 17,(Cur.fail_b 17).trans hb4,⟨HC7.out⟩,⟨HT7.out⟩,hFf,⟨HB7.out⟩,⟨by have:=HS.out;rw [HQ.out,if_neg (by simpa using he4),if_neg hbs,if_pos hsl] at this;exact this⟩⟩
            · have t52:decide (s ∈ l) = false:=decide_eq_false hsl
              go_wp2_with (fail)
              refine (intern_calls F' p l s _ HT6.out (by omega) (by omega) (by omega)).mono ?_
              rw [intern_new hsl]
              rintro e w8 ⟨rfl,F8,hT8,hM8,hF8⟩
              have hf8:∀ k,F8 k→w.heap.size < k:=fun k hk => by
                rcases hF8 k hk with h | h
                · exact hFf.out k h
                · have:=HC6.out.lt;omega
              have HC8:=Lib.hid (HC6.out.mv hM8 (fun h => by have:=hFf.out _ h;omega))
              have HB8:=Lib.hid (((Mv.of_below (S:=F') HB6.out).trans hM8 (fun k hk => .inl hk)).below (fun k hk => Nat.le_of_lt (hFf.out k hk)))
              have HT8:=Lib.hid hT8
              have HF8:=Lib.hid hf8
              clear hT8 hM8 hF8 hf8
              go_wp2_with (fail)
              go_roundg ko
              case measure => omega
              case rel => exact ⟨c4,l ++ [s],F8,_,_,_,_,by first | rfl | (congr 1;omega),rfl,rfl,rfl,rfl,by simp;omega,by rw [total_snoc,List.length_append,List.length_singleton];omega,hok4,hb4,⟨HC8.out⟩,⟨HT8.out⟩,⟨HF8.out⟩,⟨HB8.out⟩,⟨by have:=HS.out;rw [HQ.out,if_neg (by simpa using he4),if_neg hbs,if_neg hsl] at this;exact this⟩⟩
        · have t45:(c4.e != 0) = true:=bne_iff_ne.mpr he4
          go_wp2_with (fail)
          go_roundg ko
          case measure => omega
          case rel => exact ⟨c4,l,F',_,_,_,_,by first | rfl | (congr 1;omega),rfl,rfl,rfl,rfl,by omega,htl,hok4,hb4,⟨HC4.out⟩,⟨HT4.out⟩,hFf,⟨HB4.out⟩,⟨by have:=HS.out;rw [HQ.out,if_pos (by simpa using he4)] at this;exact this⟩⟩
      have t26:(c.e == 0) = false:=by simpa using he
      have hgc:getC bad b texts bytes = (c,l):=by rw [← hG.out,getL_err _ _ _ _ _ he]
      go_wp2_with (fail)
      have hE0:getE bad b texts bytes = ((if c.left > 0 then c.fail 8 else c).e,l):=by unfold getE;rw [hgc]
      refine (Cur.left_calls w.heap.size c _ hC.out hok).mono ?_
      rintro e w4 ⟨rfl,hd4⟩
      have HC4:=Lib.hid (hC.out.drawn hd4)
      have HB4:=Lib.hid (below_step hW.out hd4.below)
      have HT4:=Lib.hid (hTb.out.below hd4.below)
      clear hd4
      by_cases hl:c.left > 0
      · have t60:decide (c.left > 0) = true:=decide_eq_true hl
        have hne:(c.fail 8).e≠0:=by unfold Cur.Cur.fail;split <;> simp_all
        have t66:((c.fail 8).e != 0) = true:=bne_iff_ne.mpr hne
        obtain ⟨c8,hc8⟩:∃ z,z = c.fail 8:=⟨_,rfl⟩
        rw [if_pos hl,← hc8] at hE0
        rw [← hc8] at hne t66
        have HE0:=Lib.hid hE0
        have H8:=Lib.hid hc8
        clear hE0 hgc hc8
        go_wp2_with (fail)
        refine (Cur.fail_calls w.heap.size c 8 _ HC4.out).mono ?_
        rintro e w5 ⟨rfl,hC5,hM5⟩
        have HB5:=Lib.hid (((Mv.of_below (S:=one w.heap.size) HB4.out).trans hM5 (fun k hk => .inl hk)).below (fun k hk => by obtain rfl:k = w.heap.size:=hk;exact Nat.le_refl _))
        rw [← H8.out] at hC5
        have HC5:=Lib.hid hC5
        clear hC5 hM5
        go_wp2_with (fail)
        refine (Cur.err_calls w.heap.size c8 _ HC5.out).mono ?_
        rintro e w6 ⟨rfl,rfl⟩
        go_wp2_with (fail)
        go_ret2
        exact And.intro HB5.out (by rw [HE0.out,if_neg hne];rfl)
      · have t60:decide (c.left > 0) = false:=decide_eq_false hl
        rw [if_neg hl] at hE0
        have HE0:=Lib.hid hE0
        clear hE0 hgc
        go_wp2_with (fail)
        refine (Cur.err_calls w.heap.size c _ HC4.out).mono ?_
        rintro e w6 ⟨rfl,rfl⟩
        by_cases hne:c.e = 0
        · have t66:(c.e != 0) = false:=by simpa using hne
          go_wp2_with (fail)
          go_ret2
          exact And.intro HB4.out (by rw [HE0.out,if_pos hne];exact ⟨p,F',rfl,HT4.out,fun k hk => Nat.le_of_lt (hFf.out k hk)⟩)
        · have t66:(c.e != 0) = true:=bne_iff_ne.mpr hne
          go_wp2_with (fail)
          go_ret2
          exact And.intro HB4.out (by rw [HE0.out,if_neg hne];rfl)
end
end Go.Proofs.YtoigkneoaemcfaaDoor.Tab
