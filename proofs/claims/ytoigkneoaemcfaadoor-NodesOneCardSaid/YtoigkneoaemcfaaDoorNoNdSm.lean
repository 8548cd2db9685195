import Derived.Test.YtoigkneoaemcfaaDoorNoNdAll
namespace Go.Proofs.YtoigkneoaemcfaaDoor.Nd
open Go.RowKit Go.Lib Go.Proofs.YtoigkneoaemcfaaDoorW.PrintWords Go.Proofs.YtoigkneoaemcfaaDoorW.PrintLast Go.Proofs.YtoigkneoaemcfaaDoorW.PrintMore Go.Proofs.YtoigkneoaemcfaaDoor.B Go.Proofs.YtoigkneoaemcfaaDoor.Bd Go.Proofs.YtoigkneoaemcfaaDoor.Tab Go.Proofs.YtoigkneoaemcfaaDoor.Rec
open Go.Proofs.YtoigkneoaemcfaaDoor.GN (S40 rd_T40 k40 kidsI checkP cl H)
set_option linter.unusedVariables false
set_option linter.unusedSimpArgs false
section
variable (k:Int) (A1:Option Addr) (c1:Nat) (l1:List Int) (A2:Option Addr) (c2:Nat) (l2:List ByteArray) (A3:Option Addr) (c3:Nat) (l3:List Int)
variable (k':Int) (B1:Option Addr) (d1:Nat) (m1:List Int) (B2:Option Addr) (d2:Nat) (m2:List ByteArray) (B3:Option Addr) (d3:Nat) (m3:List Int)
structure DS (w wr:World) (v:Value) (n:Nat) (xs:List Value):Prop where
  bel:Below w.heap.size w wr
  x:NBox wr w.heap.size k (.slice A1 l1.length c1) (.slice A2 l2.length c2) (.slice A3 l3.length c3)
  y:NBox wr (w.heap.size+1) k' (.slice B1 m1.length d1) (.slice B2 m2.length d2) (.slice B3 m3.length d3)
  row:wr.ownsRow w.heap.size 164 4 v n xs
variable {k A1 c1 l1 A2 c2 l2 A3 c3 l3 k' B1 d1 m1 B2 d2 m2 B3 d3 m3} {w wr w':World} {v:Value} {n:Nat} {xs:List Value}
theorem DS.below (h:DS k A1 c1 l1 A2 c2 l2 A3 c3 l3 k' B1 d1 m1 B2 d2 m2 B3 d3 m3 w wr v n xs) (hb:Below wr.heap.size wr w'):DS k A1 c1 l1 A2 c2 l2 A3 c3 l3 k' B1 d1 m1 B2 d2 m2 B3 d3 m3 w w' v n xs :=
  ⟨below_step h.bel hb,h.x.below hb,h.y.below hb,row_mv h.row (Mv.of_below (S:=nil) hb) (fun _ _ h => h)⟩
theorem DS.push (h:DS k A1 c1 l1 A2 c2 l2 A3 c3 l3 k' B1 d1 m1 B2 d2 m2 B3 d3 m3 w wr v n xs) {ob:Obj} {w2:World} {v':Value} {n':Nat} {ys:List Value} (hg:(wr.alloc ob).grownBy w2 v.ownBlock) (ho:w2.ownsRow w.heap.size 164 4 v' n' ys):DS k A1 c1 l1 A2 c2 l2 A3 c3 l3 k' B1 d1 m1 B2 d2 m2 B3 d3 m3 w w2 v' n' ys:=by
  have m1:Mv (fun j => v.ownBlock = some j) wr w2:=((Mv.refl (fun j => v.ownBlock = some j) wr).alloc _).step (mv_grown hg)
  exact ⟨((Mv.of_below (S:=fun j => v.ownBlock = some j) h.bel).trans m1 (fun k hk => .inl hk)).below (fun j hj => (h.row.lt j hj).1),m1.keep h.x (fun e => own_ne h.row h.x (by decide) e),m1.keep h.y (fun e => own_ne h.row h.y (by decide) e),ho⟩
end
theorem take_same {α:Type} {l m:List α} (he:l.length = m.length) {i:Nat} (hi:i < l.length):l.take (i+1) = m.take (i+1)↔l.take i = m.take i∧l[i] = m[i]:=by
  rw [List.take_succ_eq_append_getElem hi,List.take_succ_eq_append_getElem (by omega)]
  constructor
  · intro h
    have h1:=congrArg List.length h
    have h2:=List.append_inj h (by simp;omega)
    exact ⟨h2.1,by simpa using h2.2⟩
  · rintro ⟨h1,h2⟩
    rw [h1,h2]
section
variable (k:Int) (A1:Option Addr) (c1:Nat) (l1:List Int) (A2:Option Addr) (c2:Nat) (l2:List ByteArray) (A3:Option Addr) (c3:Nat) (l3:List Int)
variable (k':Int) (B1:Option Addr) (d1:Nat) (m1:List Int) (B2:Option Addr) (d2:Nat) (m2:List ByteArray) (B3:Option Addr) (d3:Nat) (m3:List Int) (w:World)
def DiffPost (e:Ending) (w':World):Prop:=∃ A n c ok,e = .returned (.tuple #[.slice A n c,.bool ok])∧((ok = true∧n = 0)↔(k = k'∧l1 = m1∧l2 = m2))∧Below w.heap.size w w'
set_option maxHeartbeats 8000000 in
set_option maxRecDepth 100000 in
theorem diff_calls (hI:In w A1 c1 l1 A2 c2 l2 A3 c3 l3) (hJ:In w B1 d1 m1 B2 d2 m2 B3 d3 m3) (hn1:l1.length≤1000000) (hn2:l2.length≤1000000) :
    Calls Tryd.prog 88 #[.agg #[.int .i64 k,.slice A1 l1.length c1,.slice A2 l2.length c2,.slice A3 l3.length c3],.agg #[.int .i64 k',.slice B1 m1.length d1,.slice B2 m2.length d2,.slice B3 m3.length d3]] w fun e w' => DiffPost k l1 l2 k' m1 m2 w e w':=by
  obtain ⟨i0,hi0,hz0,hz1,hz2⟩:=info_parts (show (Tryd.prog.info? 164).map (fun i => (i.zero,i.size,i.bytes)) = some (some (.agg #[.bool false,.int .i64 0,.int .i64 0,.string ⟨#[]⟩]),4,40) from by kernel_rfl)
  have HI:=Lib.hid hI
  have HJ:=Lib.hid hJ
  clear hI hJ
  go_enter Tryd.func88,Tryd.ntmps88
  go_upto_region 1 with (fail)
  obtain ⟨hx,hd⟩:=NBox.new w k (.slice A1 l1.length c1) (.slice A2 l2.length c2) (.slice A3 l3.length c3)
  obtain ⟨hy,hd2⟩:=NBox.new (w.alloc (.cells #[.int .i64 k,.slice A1 l1.length c1,.slice A2 l2.length c2,.slice A3 l3.length c3] 40)) k' (.slice B1 m1.length d1) (.slice B2 m2.length d2) (.slice B3 m3.length d3)
  have hS:DS k A1 c1 l1 A2 c2 l2 A3 c3 l3 k' B1 d1 m1 B2 d2 m2 B3 d3 m3 w _ (.slice none 0 0) 0 []:=⟨below_step hd hd2,hx.below hd2,(by rw [show (w.alloc (.cells #[.int .i64 k,.slice A1 l1.length c1,.slice A2 l2.length c2,.slice A3 l3.length c3] 40)).heap.size = w.heap.size+1 by simp] at hy;exact hy),World.ownsRow_nil _ _ _ _⟩
  clear hx hd hy hd2
  generalize (w.alloc (.cells #[.int .i64 k,.slice A1 l1.length c1,.slice A2 l2.length c2,.slice A3 l3.length c3] 40)).alloc (.cells #[.int .i64 k',.slice B1 m1.length d1,.slice B2 m2.length d2,.slice B3 m3.length d3] 40) = w1 at *
  have S1:=Lib.hid hS
  obtain ⟨x0,x1,x2,x3⟩:=hS.x.cells
  obtain ⟨y0,y1,y2,y3⟩:=hS.y.cells
  clear hS
  by_cases q0:k = k'
  rotate_left
  · have t0:(k != k') = true:=bne_iff_ne.mpr q0
    have HN:=Lib.hid q0
    go_wp2_with (fail)
    go_ret2
    exact ⟨none,0,0,false,rfl,⟨fun h => (by cases h.1),fun h => absurd h.1 HN.out⟩,S1.out.bel⟩
  have t0:(k != k') = false:=by simpa using q0
  by_cases q1:(l1.length:Int) = (m1.length:Int)
  rotate_left
  · have t1:((l1.length:Int) != (m1.length:Int)) = true:=bne_iff_ne.mpr q1
    have HN:=Lib.hid (show ¬ l1 = m1 from fun e => q1 (by rw [e]))
    clear q0
    go_wp2_with (fail)
    go_ret2
    exact ⟨none,0,0,false,rfl,⟨fun h => (by cases h.1),fun h => absurd h.2.1 HN.out⟩,S1.out.bel⟩
  have t1:((l1.length:Int) != (m1.length:Int)) = false:=by simpa using q1
  by_cases q2:(l2.length:Int) = (m2.length:Int)
  rotate_left
  · have t2:((l2.length:Int) != (m2.length:Int)) = true:=bne_iff_ne.mpr q2
    have HN:=Lib.hid (show ¬ l2 = m2 from fun e => q2 (by rw [e]))
    clear q0 q1
    go_wp2_with (fail)
    go_ret2
    exact ⟨none,0,0,false,rfl,⟨fun h => (by cases h.1),fun h => absurd h.2.2 HN.out⟩,S1.out.bel⟩
  have t2:((l2.length:Int) != (m2.length:Int)) = false:=by simpa using q2
  have HK:=Lib.hid q0
  have HL1:=Lib.hid (show l1.length = m1.length by omega)
  have HL2:=Lib.hid (show l2.length = m2.length by omega)
  clear q0 q1 q2
  go_upto_block 0 with (fail)
  clear x0 x1 x2 x3 y0 y1 y2 y3 t0 t1 t2
  have hS2:DS k A1 c1 l1 A2 c2 l2 A3 c3 l3 k' B1 d1 m1 B2 d2 m2 B3 d3 m3 w (w1.alloc (.cells #[] 164)) (.slice (some ⟨w1.heap.size,0,none⟩) 0 0) 0 []:=by
    have h:=S1.out.below ((Below.refl _ w1).alloc (Nat.le_refl _) (.cells #[] 164))
    exact ⟨h.bel,h.x,h.y,row_lit (n:=0) S1.out.bel.size (heap_alloc_new w1 _) rfl (by decide) (by decide)⟩
  generalize w1.alloc (.cells #[] 164) = w2 at *
  generalize (Value.slice (some ⟨w1.heap.size,0,none⟩) 0 0) = v0 at *
  have S2:=Lib.hid hS2
  clear hS2 S1
  go_cut [6,7] (fun v6 v7 wx => ∃ (n:Nat) (v x:Value) (xs:List Value),v = v6∧v7 = x∧n≤l1.length∧Aside0 (DS k A1 c1 l1 A2 c2 l2 A3 c3 l3 k' B1 d1 m1 B2 d2 m2 B3 d3 m3 w wx v n xs)∧Aside0 (n = 0↔l1 = m1))
  case first =>
    go_wp2_with (fail)
    go_loopg [6,7] l1.length (fun kq v6 v7 wr => ∃ (i n:Nat) (v:Value) (xs:List Value),v = v6∧v7 = .int .i64 (i:Int)∧i+kq = l1.length∧n≤i∧Aside0 (DS k A1 c1 l1 A2 c2 l2 A3 c3 l3 k' B1 d1 m1 B2 d2 m2 B3 d3 m3 w wr v n xs)∧Aside0 (n = 0↔l1.take i = m1.take i))
    case atStart => exact ⟨0,0,v0,[],rfl,rfl,by omega,Nat.le_refl _,⟨S2.out⟩,⟨by simp⟩⟩
    case round =>
      clear S2
      obtain ⟨i,n,v,xs,rfl,rfl,hik,hni,hS,hE⟩:=hrel
      obtain ⟨wo,hwo⟩:∃ z,z = wr:=⟨_,rfl⟩
      subst hwo
      obtain ⟨x0,x1,x2,x3⟩:=hS.out.x.cells
      obtain ⟨y0,y1,y2,y3⟩:=hS.out.y.cells
      by_cases hlt:(i:Int) < (l1.length:Int)
      · have t4:decide ((i:Int) < (l1.length:Int)) = true:=decide_eq_true hlt
        obtain ⟨ko,rfl⟩:∃ g,gk = g+1:=⟨gk - 1,by omega⟩
        have hml:(i:Int) < (m1.length:Int):=by have:=HL1.out;omega
        obtain ⟨ad,ea,u1⟩:=Kd.at_int (HI.out.below hS.out.bel).r1 (i:Int) (by omega) hlt
        obtain ⟨bd,eb,u2⟩:=Kd.at_int (HJ.out.below hS.out.bel).r1 (i:Int) (by omega) hml
        subst ea eb
        rw [Int.toNat_natCast] at u1 u2
        have HT:=Lib.hid (show l1.take (i+1) = m1.take (i+1)↔l1.take i = m1.take i∧rd l1 (i:Int) = rd m1 (i:Int) by
          have h:=take_same HL1.out (i:=i) (by omega)
          have e1:=num_at (l:=l1) (i:=i) (by omega)
          have e2:=num_at (l:=m1) (i:=i) (by have:=HL1.out;omega)
          rw [List.drop_eq_getElem_cons (by omega)] at e1
          rw [List.drop_eq_getElem_cons (by have:=HL1.out;omega)] at e2
          rw [h,(List.cons.inj e1).1,(List.cons.inj e2).1])
        generalize rd l1 (i:Int) = a at *
        generalize rd m1 (i:Int) = b at *
        have SD:=Lib.hid (hS.out.below (below_drew1 (Below.refl _ wo)))
        have u3:wo.drew.cell? (bd.add i) = some (.int .i64 b):=u2
        go_upto_region 7 with (fail)
        go_region_held3 (fun w' => w'.cell? ⟨w.heap.size,1,none⟩ = some (.slice (some ad) l1.length c1)∧w'.cell? ⟨w.heap.size+1,1,none⟩ = some (.slice (some bd) m1.length d1)∧w'.cell? (ad.add i) = some (.int .i64 a)∧w'.cell? (bd.add i) = some (.int .i64 b)) (go_keep) (fail)
        clear hS x0 x1 x2 x3 y0 y1 y2 y3 u1 u2
        generalize wo.drew = wd at SD u3 ⊢
        obtain ⟨y0,y1,y2,y3⟩:=SD.out.y.cells
        obtain ⟨Ap,cp,rfl⟩:=row_slice SD.out.row
        by_cases hab:a = b
        · have t5:(a != b) = false:=by simpa using hab
          have HE2:=Lib.hid (show n = 0↔l1.take (i+1) = m1.take (i+1) by rw [HT.out,hE.out];simp [hab])
          clear hab
          go_wp2_with (fail)
          go_roundg ko
          case measure => omega
          case rel => exact ⟨i+1,n,_,xs,rfl,by first | rfl | (congr 1;omega),by omega,by omega,⟨SD.out⟩,⟨HE2.out⟩⟩
        · have t5:(a != b) = true:=bne_iff_ne.mpr hab
          have HE2:=Lib.hid (show n+1 = 0↔l1.take (i+1) = m1.take (i+1) by rw [HT.out];simp [hab])
          clear hab
          go_wp2_with (first
            | (at_builtin;refine wpList_append_own_at _ rfl _ _ 146 rfl w.heap.size 164 i0 (.agg #[.bool false,.int .i64 0,.int .i64 0,.string ⟨#[]⟩]) 4 40 Tryd.underlying146 hi0 hz0 hz1 hz2 rfl (by decide) (.slice Ap n cp) n xs rfl (SD.out.row.alloc _) ⟨wd.heap.size,0,none⟩ 1 1 [.bool false,.int .i64 (i:Int),.int .i64 b,.string ⟨#[]⟩] rfl rfl ?news (fun u hu => by simp at hu;rcases hu with rfl | rfl | rfl | rfl <;> rfl) (by unfold maxLen;omega) (by omega) (by have:=SD.out.bel.size;simp;omega) ?_;(case news => exact cells_new _ [.bool false,.int .i64 (i:Int),.int .i64 b,.string ⟨#[]⟩] _);intro v8 w8 ho8 hg8 _ hl8;have HP:=Lib.hid (SD.out.push hg8 ho8);clear ho8 hg8 hl8))
          go_roundg ko
          case measure => omega
          case rel => exact ⟨i+1,n+1,_,_,rfl,by first | rfl | (congr 1;omega),by omega,by omega,⟨HP.out⟩,⟨HE2.out⟩⟩
      · have t4:decide ((i:Int) < (l1.length:Int)) = false:=decide_eq_false hlt
        have HE2:=Lib.hid (show n = 0↔l1 = m1 by
          have h:=hE.out
          rw [List.take_of_length_le (by omega),List.take_of_length_le (by have:=HL1.out;omega)] at h
          exact h)
        go_wp2_with (fail)
        go_meet
        exact ⟨n,_,_,xs,rfl,rfl,by omega,⟨hS.out⟩,⟨HE2.out⟩⟩
  case rest =>
  clear S2
  obtain ⟨n0,v,x,xs,rfl,rfl,hn0,hS0,hE0⟩:=hcut
  obtain ⟨w3,hw3⟩:∃ z,z = wc:=⟨_,rfl⟩
  subst hw3
  go_wp2_with (fail)
  go_loopg [6,8] l2.length (fun kq v6 v8 wr => ∃ (i n:Nat) (v:Value) (xs:List Value),v = v6∧v8 = .int .i64 (i:Int)∧i+kq = l2.length∧n≤l1.length+i∧Aside0 (DS k A1 c1 l1 A2 c2 l2 A3 c3 l3 k' B1 d1 m1 B2 d2 m2 B3 d3 m3 w wr v n xs)∧Aside0 (n = 0↔l1 = m1∧l2.take i = m2.take i))
  case atStart => exact ⟨0,n0,_,xs,rfl,rfl,by omega,by omega,⟨hS0.out⟩,⟨by rw [hE0.out];simp⟩⟩
  case round =>
    clear hS0 hE0
    obtain ⟨i,n,v,xs,rfl,rfl,hik,hni,hS,hE⟩:=hrel
    obtain ⟨wo,hwo⟩:∃ z,z = wr:=⟨_,rfl⟩
    subst hwo
    obtain ⟨x0,x1,x2,x3⟩:=hS.out.x.cells
    obtain ⟨y0,y1,y2,y3⟩:=hS.out.y.cells
    by_cases hlt:(i:Int) < (l2.length:Int)
    · have t4:decide ((i:Int) < (l2.length:Int)) = true:=decide_eq_true hlt
      obtain ⟨ko,rfl⟩:∃ g,gk = g+1:=⟨gk - 1,by omega⟩
      have hml:(i:Int) < (m2.length:Int):=by have:=HL2.out;omega
      obtain ⟨ad,ea,u1⟩:=Kd.at_string (HI.out.below hS.out.bel).r2 (i:Int) (by omega) hlt
      obtain ⟨bd,eb,u2⟩:=Kd.at_string (HJ.out.below hS.out.bel).r2 (i:Int) (by omega) hml
      subst ea eb
      rw [Int.toNat_natCast] at u1 u2
      have HT:=Lib.hid (show l2.take (i+1) = m2.take (i+1)↔l2.take i = m2.take i∧rdOf ByteArray.empty l2 (i:Int) = rdOf ByteArray.empty m2 (i:Int) by
        have h:=take_same HL2.out (i:=i) (by omega)
        have e1:=txt_at (l:=l2) (i:=i) (by omega)
        have e2:=txt_at (l:=m2) (i:=i) (by have:=HL2.out;omega)
        rw [List.drop_eq_getElem_cons (by omega)] at e1
        rw [List.drop_eq_getElem_cons (by have:=HL2.out;omega)] at e2
        rw [h,(List.cons.inj e1).1,(List.cons.inj e2).1])
      generalize rdOf ByteArray.empty l2 (i:Int) = a at *
      generalize rdOf ByteArray.empty m2 (i:Int) = b at *
      have SD:=Lib.hid (hS.out.below (below_drew1 (Below.refl _ wo)))
      have u3:wo.drew.cell? (bd.add i) = some (.string b):=u2
      go_upto_region 12 with (fail)
      go_region_held3 (fun w' => w'.cell? ⟨w.heap.size,2,none⟩ = some (.slice (some ad) l2.length c2)∧w'.cell? ⟨w.heap.size+1,2,none⟩ = some (.slice (some bd) m2.length d2)∧w'.cell? (ad.add i) = some (.string a)∧w'.cell? (bd.add i) = some (.string b)) (go_keep) (fail)
      clear hS x0 x1 x2 x3 y0 y1 y2 y3 u1 u2
      generalize wo.drew = wd at SD u3 ⊢
      obtain ⟨y0,y1,y2,y3⟩:=SD.out.y.cells
      obtain ⟨Ap,cp,rfl⟩:=row_slice SD.out.row
      by_cases hab:a = b
      · have HE2:=Lib.hid (show n = 0↔l1 = m1∧l2.take (i+1) = m2.take (i+1) by rw [HT.out,hE.out];simp [hab])
        have t6:(a.toList == b.toList) = true:=by rw [hab];simp
        clear hab
        go_upto_if 78 with (fail)
        rw [t6]
        go_wp2_with (fail)
        go_roundg ko
        case measure => omega
        case rel => exact ⟨i+1,n,_,xs,rfl,by first | rfl | (congr 1;omega),by omega,by omega,⟨SD.out⟩,⟨HE2.out⟩⟩
      · have hne:¬ a.toList = b.toList:=fun h => hab (by rw [toList_eq] at h;exact h)
        have t6:(a.toList == b.toList) = false:=by simpa using hne
        have HE2:=Lib.hid (show n+1 = 0↔l1 = m1∧l2.take (i+1) = m2.take (i+1) by rw [HT.out];simp [hab])
        clear hab hne
        go_upto_if 78 with (fail)
        rw [t6]
        go_wp2_with (first
          | (at_builtin;refine wpList_append_own_at _ rfl _ _ 146 rfl w.heap.size 164 i0 (.agg #[.bool false,.int .i64 0,.int .i64 0,.string ⟨#[]⟩]) 4 40 Tryd.underlying146 hi0 hz0 hz1 hz2 rfl (by decide) (.slice Ap n cp) n xs rfl (SD.out.row.alloc _) ⟨wd.heap.size,0,none⟩ 1 1 [.bool true,.int .i64 (i:Int),.int .i64 0,.string b] rfl rfl ?news (fun u hu => by simp at hu;rcases hu with rfl | rfl | rfl | rfl <;> rfl) (by unfold maxLen;omega) (by omega) (by have:=SD.out.bel.size;simp;omega) ?_;(case news => exact cells_new _ [.bool true,.int .i64 (i:Int),.int .i64 0,.string b] _);intro v8 w8 ho8 hg8 _ hl8;have HP:=Lib.hid (SD.out.push hg8 ho8);clear ho8 hg8 hl8))
        go_roundg ko
        case measure => omega
        case rel => exact ⟨i+1,n+1,_,_,rfl,by first | rfl | (congr 1;omega),by omega,by omega,⟨HP.out⟩,⟨HE2.out⟩⟩
    · have t4:decide ((i:Int) < (l2.length:Int)) = false:=decide_eq_false hlt
      have HE2:=Lib.hid (show n = 0↔l1 = m1∧l2 = m2 by
        have h:=hE.out
        rw [List.take_of_length_le (by omega),List.take_of_length_le (by have:=HL2.out;omega)] at h
        exact h)
      obtain ⟨Ap,cp,rfl⟩:=row_slice hS.out.row
      go_wp2_with (fail)
      go_ret2
      exact ⟨Ap,n,cp,true,rfl,⟨fun h => ⟨HK.out,HE2.out.1 h.2⟩,fun h => ⟨by trivial,HE2.out.2 h.2⟩⟩,hS.out.bel⟩
set_option maxHeartbeats 8000000 in
set_option maxRecDepth 100000 in
theorem own_calls (hI:In w A1 c1 l1 A2 c2 l2 A3 c3 l3) (hJ:In w B1 d1 m1 B2 d2 m2 B3 d3 m3) (hn1:l1.length≤1000000) (hn2:l2.length≤1000000) :
    Calls Tryd.prog 63 #[.agg #[.int .i64 k,.slice A1 l1.length c1,.slice A2 l2.length c2,.slice A3 l3.length c3],.agg #[.int .i64 k',.slice B1 m1.length d1,.slice B2 m2.length d2,.slice B3 m3.length d3]] w fun e w' => e = .returned (.bool (decide (k = k'∧l1 = m1∧l2 = m2)))∧Below w.heap.size w w':=by
  have HI:=Lib.hid hI
  have HJ:=Lib.hid hJ
  clear hI hJ
  go_enter Tryd.func63,Tryd.ntmps63
  go_upto_region 1 with (fail)
  obtain ⟨hx,hd⟩:=NBox.new w k (.slice A1 l1.length c1) (.slice A2 l2.length c2) (.slice A3 l3.length c3)
  obtain ⟨hy,hd2⟩:=NBox.new (w.alloc (.cells #[.int .i64 k,.slice A1 l1.length c1,.slice A2 l2.length c2,.slice A3 l3.length c3] 40)) k' (.slice B1 m1.length d1) (.slice B2 m2.length d2) (.slice B3 m3.length d3)
  rw [show (w.alloc (.cells #[.int .i64 k,.slice A1 l1.length c1,.slice A2 l2.length c2,.slice A3 l3.length c3] 40)).heap.size = w.heap.size+1 by simp] at hy
  have D1:=Lib.hid (below_step hd hd2)
  obtain ⟨x0,x1,x2,x3⟩:=(hx.below hd2).cells
  obtain ⟨y0,y1,y2,y3⟩:=hy.cells
  clear hx hd hy hd2
  generalize (w.alloc (.cells #[.int .i64 k,.slice A1 l1.length c1,.slice A2 l2.length c2,.slice A3 l3.length c3] 40)).alloc (.cells #[.int .i64 k',.slice B1 m1.length d1,.slice B2 m2.length d2,.slice B3 m3.length d3] 40) = w1 at *
  go_wp2_with (fail)
  refine (diff_calls k A1 c1 l1 A2 c2 l2 A3 c3 l3 k' B1 d1 m1 B2 d2 m2 B3 d3 m3 w1 (HI.out.below D1.out) (HJ.out.below D1.out) hn1 hn2).mono ?_
  rintro e w2 ⟨A,n,c,ok,rfl,hok,hb2⟩
  have D2:=Lib.hid (below_step D1.out hb2)
  have HOK:=Lib.hid hok
  clear hok hb2 x0 x1 x2 x3 y0 y1 y2 y3
  cases ok with
  | false =>
    have HE:=Lib.hid (show decide (k = k'∧l1 = m1∧l2 = m2) = false from decide_eq_false (fun h => by have:=HOK.out.2 h;cases this.1))
    go_wp2_with (fail)
    go_ret
    exact ⟨by rw [HE.out];rfl,D2.out⟩
  | true =>
    by_cases hn:n = 0
    · have t17:((n:Int) == 0) = true:=by simp [hn]
      have HE:=Lib.hid (show decide (k = k'∧l1 = m1∧l2 = m2) = true from decide_eq_true (HOK.out.1 ⟨rfl,hn⟩))
      clear hn
      go_wp2_with (fail)
      go_ret
      exact ⟨by rw [HE.out];rfl,D2.out⟩
    · have t17:((n:Int) == 0) = false:=by simpa using hn
      have HE:=Lib.hid (show decide (k = k'∧l1 = m1∧l2 = m2) = false from decide_eq_false (fun h => hn (HOK.out.2 h).2))
      clear hn
      go_wp2_with (fail)
      go_ret
      exact ⟨by rw [HE.out];rfl,D2.out⟩
def sm8 (k:Int) (l1:List Int) (l2:List ByteArray) (l3:List Int) (k':Int) (m1:List Int) (m2:List ByteArray) (m3:List Int):Bool:=decide ((k = k'∧l1 = m1∧l2 = m2)∧l3 = m3)
set_option maxHeartbeats 8000000 in
set_option maxRecDepth 100000 in
theorem same8_calls (hI:In w A1 c1 l1 A2 c2 l2 A3 c3 l3) (hJ:In w B1 d1 m1 B2 d2 m2 B3 d3 m3) (hn1:l1.length≤1000000) (hn2:l2.length≤1000000) (hn3:l3.length≤100000000) :
    Calls Tryd.prog 24 #[.agg #[.int .i64 k,.slice A1 l1.length c1,.slice A2 l2.length c2,.slice A3 l3.length c3],.agg #[.int .i64 k',.slice B1 m1.length d1,.slice B2 m2.length d2,.slice B3 m3.length d3]] w fun e w' => e = .returned (.bool (sm8 k l1 l2 l3 k' m1 m2 m3))∧Below w.heap.size w w':=by
  have HI:=Lib.hid hI
  have HJ:=Lib.hid hJ
  clear hI hJ
  go_enter Tryd.func24,Tryd.ntmps24
  go_upto_region 1 with (fail)
  obtain ⟨hx,hd⟩:=NBox.new w k (.slice A1 l1.length c1) (.slice A2 l2.length c2) (.slice A3 l3.length c3)
  obtain ⟨hy,hd2⟩:=NBox.new (w.alloc (.cells #[.int .i64 k,.slice A1 l1.length c1,.slice A2 l2.length c2,.slice A3 l3.length c3] 40)) k' (.slice B1 m1.length d1) (.slice B2 m2.length d2) (.slice B3 m3.length d3)
  rw [show (w.alloc (.cells #[.int .i64 k,.slice A1 l1.length c1,.slice A2 l2.length c2,.slice A3 l3.length c3] 40)).heap.size = w.heap.size+1 by simp] at hy
  have D1:=Lib.hid (below_step hd hd2)
  have X1:=Lib.hid (hx.below hd2)
  have Y1:=Lib.hid hy
  clear hx hd hy hd2
  generalize (w.alloc (.cells #[.int .i64 k,.slice A1 l1.length c1,.slice A2 l2.length c2,.slice A3 l3.length c3] 40)).alloc (.cells #[.int .i64 k',.slice B1 m1.length d1,.slice B2 m2.length d2,.slice B3 m3.length d3] 40) = w1 at *
  obtain ⟨x0,x1,x2,x3⟩:=X1.out.cells
  obtain ⟨y0,y1,y2,y3⟩:=Y1.out.cells
  go_wp2_with (fail)
  refine (own_calls k A1 c1 l1 A2 c2 l2 A3 c3 l3 k' B1 d1 m1 B2 d2 m2 B3 d3 m3 w1 (HI.out.below D1.out) (HJ.out.below D1.out) hn1 hn2).mono ?_
  rintro e w2 ⟨rfl,hb2⟩
  have D2:=Lib.hid (below_step D1.out hb2)
  have X2:=Lib.hid (X1.out.below hb2)
  have Y2:=Lib.hid (Y1.out.below hb2)
  clear hb2 x0 x1 x2 x3 y0 y1 y2 y3 D1 X1 Y1
  obtain ⟨x0,x1,x2,x3⟩:=X2.out.cells
  obtain ⟨y0,y1,y2,y3⟩:=Y2.out.cells
  by_cases hO:k = k'∧l1 = m1∧l2 = m2
  rotate_left
  · rw [decide_eq_false hO]
    have HE:=Lib.hid (show sm8 k l1 l2 l3 k' m1 m2 m3 = false from decide_eq_false (fun h => hO h.1))
    clear hO
    go_wp2_with (fail)
    go_ret
    exact ⟨by rw [HE.out];rfl,D2.out⟩
  rw [decide_eq_true hO]
  have HO:=Lib.hid hO
  clear hO
  by_cases q1:(l3.length:Int) = (m3.length:Int)
  rotate_left
  · have t1:((l3.length:Int) != (m3.length:Int)) = true:=bne_iff_ne.mpr q1
    have HE:=Lib.hid (show sm8 k l1 l2 l3 k' m1 m2 m3 = false from decide_eq_false (fun h => q1 (by rw [h.2])))
    go_wp2_with (fail)
    go_ret
    exact ⟨by rw [HE.out];rfl,D2.out⟩
  have t1:((l3.length:Int) != (m3.length:Int)) = false:=by simpa using q1
  have HL:=Lib.hid (show l3.length = m3.length by omega)
  clear q1
  go_wp2_with (fail)
  clear x0 x1 x2 x3 y0 y1 y2 y3 t1
  go_loopg [5] l3.length (fun kq v5 wr => ∃ (i:Nat),v5 = .int .i64 (i:Int)∧i+kq = l3.length∧Aside0 (Below w.heap.size w wr)∧Aside0 (NBox wr w.heap.size k (.slice A1 l1.length c1) (.slice A2 l2.length c2) (.slice A3 l3.length c3))∧Aside0 (NBox wr (w.heap.size+1) k' (.slice B1 m1.length d1) (.slice B2 m2.length d2) (.slice B3 m3.length d3))∧Aside0 (l3.take i = m3.take i))
  case atStart => exact ⟨0,rfl,by omega,⟨D2.out⟩,⟨X2.out⟩,⟨Y2.out⟩,⟨by simp⟩⟩
  case round =>
    clear D2 X2 Y2
    obtain ⟨i,rfl,hik,hD,hX,hY,hE⟩:=hrel
    obtain ⟨wo,hwo⟩:∃ z,z = wr:=⟨_,rfl⟩
    subst hwo
    obtain ⟨x0,x1,x2,x3⟩:=hX.out.cells
    obtain ⟨y0,y1,y2,y3⟩:=hY.out.cells
    by_cases hlt:(i:Int) < (l3.length:Int)
    · have t4:decide ((i:Int) < (l3.length:Int)) = true:=decide_eq_true hlt
      obtain ⟨ko,rfl⟩:∃ g,gk = g+1:=⟨gk - 1,by omega⟩
      have hml:(i:Int) < (m3.length:Int):=by have:=HL.out;omega
      obtain ⟨ad,ea,u1⟩:=Kd.at_int (HI.out.below hD.out).r3 (i:Int) (by omega) hlt
      obtain ⟨bd,eb,u2⟩:=Kd.at_int (HJ.out.below hD.out).r3 (i:Int) (by omega) hml
      subst ea eb
      rw [Int.toNat_natCast] at u1 u2
      have HT:=Lib.hid (show l3.take (i+1) = m3.take (i+1)↔l3.take i = m3.take i∧rd l3 (i:Int) = rd m3 (i:Int) by
        have h:=take_same HL.out (i:=i) (by omega)
        have e1:=num_at (l:=l3) (i:=i) (by omega)
        have e2:=num_at (l:=m3) (i:=i) (by have:=HL.out;omega)
        rw [List.drop_eq_getElem_cons (by omega)] at e1
        rw [List.drop_eq_getElem_cons (by have:=HL.out;omega)] at e2
        rw [h,(List.cons.inj e1).1,(List.cons.inj e2).1])
      generalize rd l3 (i:Int) = a at *
      generalize rd m3 (i:Int) = b at *
      have HD2:=Lib.hid (below_step hD.out (below_drew1 (Below.refl _ wo)))
      have HX2:=Lib.hid (hX.out.below (below_drew1 (Below.refl _ wo)))
      have HY2:=Lib.hid (hY.out.below (below_drew1 (Below.refl _ wo)))
      go_upto_region 6 with (fail)
      go_region_held3 (fun w' => w'.cell? ⟨w.heap.size,3,none⟩ = some (.slice (some ad) l3.length c3)∧w'.cell? ⟨w.heap.size+1,3,none⟩ = some (.slice (some bd) m3.length d3)∧w'.cell? (ad.add i) = some (.int .i64 a)∧w'.cell? (bd.add i) = some (.int .i64 b)) (go_keep) (fail)
      clear hD hX hY x0 x1 x2 x3 y0 y1 y2 y3 u1 u2
      generalize wo.drew = wd at HD2 HX2 HY2 ⊢
      by_cases hab:a = b
      · have t5:(a != b) = false:=by simpa using hab
        have HE2:=Lib.hid (show l3.take (i+1) = m3.take (i+1) from HT.out.2 ⟨hE.out,hab⟩)
        clear hab
        go_wp2_with (fail)
        go_roundg ko
        case measure => omega
        case rel => exact ⟨i+1,by first | rfl | (congr 1;omega),by omega,⟨HD2.out⟩,⟨HX2.out⟩,⟨HY2.out⟩,⟨HE2.out⟩⟩
      · have t5:(a != b) = true:=bne_iff_ne.mpr hab
        have HE2:=Lib.hid (show sm8 k l1 l2 l3 k' m1 m2 m3 = false from decide_eq_false (fun h => hab (HT.out.1 (by rw [h.2])).2))
        clear hab
        go_wp2_with (fail)
        go_ret
        exact ⟨by rw [HE2.out];rfl,HD2.out⟩
    · have t4:decide ((i:Int) < (l3.length:Int)) = false:=decide_eq_false hlt
      have HE2:=Lib.hid (show sm8 k l1 l2 l3 k' m1 m2 m3 = true from decide_eq_true ⟨HO.out,by
        have h:=hE.out
        rw [List.take_of_length_le (by omega),List.take_of_length_le (by have:=HL.out;omega)] at h
        exact h⟩)
      go_wp2_with (fail)
      go_ret
      exact ⟨by rw [HE2.out];rfl,hD.out⟩
end
theorem node_ext {x y:S40} (h0:x.f0 = y.f0) (h1:x.f1 = y.f1) (h2:x.f2 = y.f2) (h3:x.f3 = y.f3):x = y:=by
  cases x;cases y;simp only at h0 h1 h2 h3;rw [h0,h1,h2,h3]
instance:DecidableEq (S40):=fun x y =>
  if h:(x.f0 = y.f0∧x.f1 = y.f1∧x.f2 = y.f2)∧x.f3 = y.f3 then .isTrue (node_ext h.1.1 h.1.2.1 h.1.2.2 h.2) else .isFalse (fun e => h (by rw [e];exact ⟨⟨rfl,rfl,rfl⟩,rfl⟩))
def sm9 (l:List (S40)) (r:Int) (m:List (S40)) (r':Int):Bool:=decide (r = r'∧l = m)
section
variable (A0:Option Addr) (c0:Nat) (l:List (S40)) (r:Int) (B0:Option Addr) (d0:Nat) (m:List (S40)) (r':Int) (w:World)
set_option maxHeartbeats 8000000 in
set_option maxRecDepth 100000 in
theorem same9_calls (h1:Kd.C k40 w A0 l.length l) (h2:Kd.C k40 w B0 m.length m) (hn:l.length≤1000000) (hf:∀ y ∈ l,Fit y.f1 y.f2 y.f3) :
    Calls Tryd.prog 29 #[.agg #[.slice A0 l.length c0,.int .i64 r],.agg #[.slice B0 m.length d0,.int .i64 r']] w fun e w' => e = .returned (.bool (sm9 l r m r'))∧Below w.heap.size w w':=by
  have HR:=Lib.hid h1
  have HQ:=Lib.hid h2
  have HF:=Lib.hid hf
  clear h1 h2 hf
  go_enter Tryd.func29,Tryd.ntmps29
  go_upto_region 1 with (fail)
  obtain ⟨hx,hd⟩:=SB.new w A0 l.length c0 r
  obtain ⟨hy,hd2⟩:=SB.new (w.alloc (.cells #[.slice A0 l.length c0,.int .i64 r] 27)) B0 m.length d0 r'
  rw [show (w.alloc (.cells #[.slice A0 l.length c0,.int .i64 r] 27)).heap.size = w.heap.size+1 by simp] at hy
  have D1:=Lib.hid (below_step hd hd2)
  have X1:=Lib.hid (hx.below hd2)
  have Y1:=Lib.hid hy
  clear hx hd hy hd2
  generalize (w.alloc (.cells #[.slice A0 l.length c0,.int .i64 r] 27)).alloc (.cells #[.slice B0 m.length d0,.int .i64 r'] 27) = w1 at *
  obtain ⟨x0,x1⟩:=X1.out.cells
  obtain ⟨y0,y1⟩:=Y1.out.cells
  by_cases q0:r = r'
  rotate_left
  · have t0:(r != r') = true:=bne_iff_ne.mpr q0
    have HE:=Lib.hid (show sm9 l r m r' = false from decide_eq_false (fun h => q0 h.1))
    go_wp2_with (fail)
    go_ret
    exact ⟨by rw [HE.out];rfl,D1.out⟩
  have t0:(r != r') = false:=by simpa using q0
  have H0:=Lib.hid q0
  clear q0
  by_cases q1:(l.length:Int) = (m.length:Int)
  rotate_left
  · have t1:((l.length:Int) != (m.length:Int)) = true:=bne_iff_ne.mpr q1
    have HE:=Lib.hid (show sm9 l r m r' = false from decide_eq_false (fun h => q1 (by rw [h.2])))
    go_wp2_with (fail)
    go_ret
    exact ⟨by rw [HE.out];rfl,D1.out⟩
  have t1:((l.length:Int) != (m.length:Int)) = false:=by simpa using q1
  have HL:=Lib.hid (show l.length = m.length by omega)
  clear q1
  go_wp2_with (fail)
  clear x0 x1 y0 y1 t0 t1
  go_loopg [5] l.length (fun kq v5 wr => ∃ (i:Nat),v5 = .int .i64 (i:Int)∧i+kq = l.length∧Aside0 (Below w.heap.size w wr)∧Aside0 (SB wr w.heap.size A0 l.length c0 r)∧Aside0 (SB wr (w.heap.size+1) B0 m.length d0 r')∧Aside0 (l.take i = m.take i))
  case atStart => exact ⟨0,rfl,by omega,⟨D1.out⟩,⟨X1.out⟩,⟨Y1.out⟩,⟨by simp⟩⟩
  case round =>
    clear D1 X1 Y1
    obtain ⟨i,rfl,hik,hD,hX,hY,hE⟩:=hrel
    obtain ⟨wo,hwo⟩:∃ z,z = wr:=⟨_,rfl⟩
    subst hwo
    obtain ⟨x0,x1⟩:=hX.out.cells
    obtain ⟨y0,y1⟩:=hY.out.cells
    by_cases hlt:(i:Int) < (l.length:Int)
    · have t4:decide ((i:Int) < (l.length:Int)) = true:=decide_eq_true hlt
      obtain ⟨ko,rfl⟩:∃ g,gk = g+1:=⟨gk - 1,by omega⟩
      have hil:i < l.length:=by omega
      have him:i < m.length:=by have:=HL.out;omega
      have hml:(i:Int) < (m.length:Int):=by omega
      obtain ⟨ad,k,B1,d1,l1,B2,d2,l2,B3,d3,l3,ea,hnd,u0,u1,u2,u3,hin⟩:=node_at HR.out hD.out hil
      obtain ⟨bd,k',E1,e1,m1,E2,e2,m2,E3,e3,m3,eb,hne,v0,v1,v2,v3,hjn⟩:=node_at HQ.out hD.out him
      subst ea eb
      have HT:=Lib.hid (show l.take (i+1) = m.take (i+1)↔l.take i = m.take i∧((k = k'∧l1 = m1∧l2 = m2)∧l3 = m3) by
        rw [take_same HL.out hil,hnd,hne]
        constructor
        · rintro ⟨h,e⟩
          injection e with e1 e2 e3 e4
          exact ⟨h,⟨e1,e2,e3⟩,e4⟩
        · rintro ⟨h,⟨e1,e2,e3⟩,e4⟩
          exact ⟨h,by rw [e1,e2,e3,e4]⟩)
      have hFI:Fit l1 l2 l3:=by have:=HF.out l[i] (List.getElem_mem _);rw [hnd] at this;exact this
      obtain ⟨hf1,hf2,hf3,_⟩:=hFI
      have HIN:=Lib.hid (hin.below (below_step hD.out (below_drew1 (Below.refl _ wo))))
      have HJN:=Lib.hid (hjn.below (below_step hD.out (below_drew1 (Below.refl _ wo))))
      clear hnd hne hin hjn
      go_upto_region 6 with (fail)
      go_region_held3 (fun w' => w'.cell? ⟨w.heap.size,0,none⟩ = some (.slice (some ad) l.length c0)∧w'.cell? ⟨w.heap.size+1,0,none⟩ = some (.slice (some bd) m.length d0)∧w'.cell? (ad.add (i * 4)) = some (.int .i64 k)∧w'.cell? ⟨(ad.add (i * 4)).block,(ad.add (i * 4)).off+1,none⟩ = some (.slice B1 l1.length d1)∧w'.cell? ⟨(ad.add (i * 4)).block,(ad.add (i * 4)).off+2,none⟩ = some (.slice B2 l2.length d2)∧w'.cell? ⟨(ad.add (i * 4)).block,(ad.add (i * 4)).off+3,none⟩ = some (.slice B3 l3.length d3)∧w'.cell? (bd.add (i * 4)) = some (.int .i64 k')∧w'.cell? ⟨(bd.add (i * 4)).block,(bd.add (i * 4)).off+1,none⟩ = some (.slice E1 m1.length e1)∧w'.cell? ⟨(bd.add (i * 4)).block,(bd.add (i * 4)).off+2,none⟩ = some (.slice E2 m2.length e2)∧w'.cell? ⟨(bd.add (i * 4)).block,(bd.add (i * 4)).off+3,none⟩ = some (.slice E3 m3.length e3)) (go_keep)
        ((go_at_call 24;refine (same8_calls k B1 d1 l1 B2 d2 l2 B3 d3 l3 k' E1 e1 m1 E2 e2 m2 E3 e3 m3 _ HIN.out HJN.out (by omega) (by omega) (by omega)).mono ?_;rintro e w8 ⟨rfl,hb8'⟩;have hb8:=below_step (below_drew1 (Below.refl _ wo)) hb8';have D8:=Lib.hid (below_step hD.out hb8);have X8:=Lib.hid (hX.out.below hb8);have Y8:=Lib.hid (hY.out.below hb8);have z0:=(hb8.cell (World.block_lt_of_cell? _ _ u0)).trans u0;have z1:=(hb8.cell (World.block_lt_of_cell? _ _ u1)).trans u1;have z2:=(hb8.cell (World.block_lt_of_cell? _ _ u2)).trans u2;have z3:=(hb8.cell (World.block_lt_of_cell? _ _ u3)).trans u3;have r0:=(hb8.cell (World.block_lt_of_cell? _ _ v0)).trans v0;have r1:=(hb8.cell (World.block_lt_of_cell? _ _ v1)).trans v1;have r2:=(hb8.cell (World.block_lt_of_cell? _ _ v2)).trans v2;have r3:=(hb8.cell (World.block_lt_of_cell? _ _ v3)).trans v3;obtain ⟨p0,p1⟩:=X8.out.cells;obtain ⟨q0,q1⟩:=Y8.out.cells;clear hb8 hb8'))
      clear hD hX hY x0 x1 y0 y1 u0 u1 u2 u3 v0 v1 v2 v3
      by_cases hab:(k = k'∧l1 = m1∧l2 = m2)∧l3 = m3
      · rw [show sm8 k l1 l2 l3 k' m1 m2 m3 = true from decide_eq_true hab] at *
        have HE2:=Lib.hid (show l.take (i+1) = m.take (i+1) from HT.out.2 ⟨hE.out,hab⟩)
        clear hab
        go_wp2_with (fail)
        go_roundg ko
        case measure => omega
        case rel => exact ⟨i+1,by first | rfl | (congr 1;omega),by omega,⟨D8.out⟩,⟨X8.out⟩,⟨Y8.out⟩,⟨HE2.out⟩⟩
      · rw [show sm8 k l1 l2 l3 k' m1 m2 m3 = false from decide_eq_false hab] at *
        have HE2:=Lib.hid (show sm9 l r m r' = false from decide_eq_false (fun h => hab (HT.out.1 (by rw [h.2])).2))
        clear hab
        go_wp2_with (fail)
        go_ret
        exact ⟨by rw [HE2.out];rfl,D8.out⟩
    · have t4:decide ((i:Int) < (l.length:Int)) = false:=decide_eq_false hlt
      have HE2:=Lib.hid (show sm9 l r m r' = true from decide_eq_true ⟨H0.out,by
        have h:=hE.out
        rw [List.take_of_length_le (by omega),List.take_of_length_le (by have:=HL.out;omega)] at h
        exact h⟩)
      go_wp2_with (fail)
      go_ret
      exact ⟨by rw [HE2.out];rfl,hD.out⟩
end
end Go.Proofs.YtoigkneoaemcfaaDoor.Nd
