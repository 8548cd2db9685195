import Derived.Test.YtoigkneoaemcfaaDoorNoDCurV
namespace Go.Proofs.YtoigkneoaemcfaaDoor.Cur
open Go.RowKit Go.Proofs.YtoigkneoaemcfaaDoorW.PrintWords Go.Proofs.YtoigkneoaemcfaaDoorW.PrintLast Go.Proofs.YtoigkneoaemcfaaDoorW.PrintMore Go.Proofs.YtoigkneoaemcfaaDoor.VM Go.Proofs.YtoigkneoaemcfaaDoor.B
set_option linter.unusedVariables false
set_option linter.unusedSimpArgs false
def ev (e:Int):Value:=if e = 0 then .nilIface else .iface 115 (.int .i64 e)
theorem ev_zero {e:Int} (h:e = 0):ev e = .nilIface:=if_pos h
theorem ev_some {e:Int} (h:¬ e = 0):ev e = .iface 115 (.int .i64 e):=if_neg h
def IsC (w:World) (g:Nat) (c:Cur):Prop:=w.heap[g]? = some (.cells #[.string c.b,.int .i64 c.at',ev c.e] 107 (0,0))
section
variable {w w':World} {g:Nat} {c:Cur}
theorem IsC.c0 (h:IsC w g c):w.cell? ⟨g,0,none⟩ = some (.string c.b):=(blk_cell h 0).trans rfl
theorem IsC.c1 (h:IsC w g c):w.cell? ⟨g,1,none⟩ = some (.int .i64 c.at'):=(blk_cell h 1).trans rfl
theorem IsC.c2 (h:IsC w g c):w.cell? ⟨g,2,none⟩ = some (ev c.e):=(blk_cell h 2).trans rfl
theorem IsC.c2z (h:IsC w g c) (he:c.e = 0):w.cell? ⟨g,2,none⟩ = some .nilIface:=by rw [h.c2,ev_zero he]
theorem IsC.c2s (h:IsC w g c) (he:¬ c.e = 0):w.cell? ⟨g,2,none⟩ = some (.iface 115 (.int .i64 c.e)):=by rw [h.c2,ev_some he]
theorem IsC.f1 (h:IsC w g c):w.frozen? ⟨g,1,none⟩ = false:=blk_frozen h 1
theorem IsC.f2 (h:IsC w g c):w.frozen? ⟨g,2,none⟩ = false:=blk_frozen h 2
theorem IsC.lt (h:IsC w g c):g < w.heap.size:=blk_lt h
theorem IsC.drew (h:IsC w g c):IsC w.drew g c:=h
theorem IsC.drewN (h:IsC w g c) (n:Nat):IsC (w.drewN n) g c:=h
theorem IsC.drawn (h:IsC w g c) (d:Drawn0 w w'):IsC w' g c:=by obtain ⟨n,rfl⟩:=d;exact h
theorem IsC.mv {S:Nat→Prop} (h:IsC w g c) (m:Mv S w w') (hg:¬ S g):IsC w' g c:=m.keep h hg
theorem IsC.below (h:IsC w g c) (m:Below w.heap.size w w'):IsC w' g c:=(Mv.of_below (S:=nil) m).keep h (fun h => h)
theorem IsC.setAt (h:IsC w g c) (n:Nat):IsC (w.setCell ⟨g,1,none⟩ (.int .i64 n)) g { c with at':=n }:=by
  have:=blk_set h 1 (.int .i64 n)
  simpa [IsC] using this
theorem IsC.setErr (h:IsC w g c) (e:Int) (v:Value) (hv:v = ev e):IsC (w.setCell ⟨g,2,none⟩ v) g { c with e:=e }:=by
  subst hv
  have:=blk_set h 2 (ev e)
  simpa [IsC] using this
theorem IsC.new (w:World) (b:ByteArray):IsC (w.alloc (.cells #[.string b,.int .i64 0,.nilIface] 107)) w.heap.size (new b):=by
  have:=heap_alloc_new w (.cells #[.string b,.int .i64 0,.nilIface] 107)
  simpa [IsC,Cur.new,ev] using this
theorem mv_at (w:World) (g:Nat) (o:Nat) (v:Value):Mv (one g) w (w.setCell ⟨g,o,none⟩ v):=(Mv.refl (one g) w).setCell (p:=⟨g,o,none⟩) (.inl rfl) v
theorem mv_set {w w1:World} {g:Nat} (h:Mv (one g) w w1) (o:Nat) (v:Value):Mv (one g) w (w1.setCell ⟨g,o,none⟩ v):=h.setCell (p:=⟨g,o,none⟩) (.inl rfl) v
end
theorem new_calls (b:ByteArray) (w:World) :
    Calls Tryd.prog 21 #[.string b] w fun e w' => e = .returned (.pointer (some ⟨w.heap.size,0,none⟩))∧IsC w' w.heap.size (new b)∧Below w.heap.size w w':=by
  go_enter Tryd.func21,Tryd.ntmps21
  go_wp2
  go_ret
  exact ⟨rfl,IsC.new w b,(Below.refl _ _).alloc (Nat.le_refl _) _⟩
theorem fail_calls (g:Nat) (c:Cur) (e:Int) (w:World) (h:IsC w g c) :
    Calls Tryd.prog 57 #[.pointer (some ⟨g,0,none⟩),.int .i64 e] w fun en w' => en = .returned (.tuple #[])∧IsC w' g (c.fail e)∧Mv (one g) w w':=by
  have f2:=h.f2
  by_cases he:c.e = 0
  · have c2:=h.c2z he
    by_cases hz:e = 0
    · have hf:c.fail e = c:=by unfold Cur.fail;rw [if_pos he,hz,← he]
      have z:(e != 0) = false:=bne_eq_false_iff_eq.mpr hz
      have H:=Lib.hid h
      have HF:=Lib.hid hf
      clear h hf he hz
      go_enter Tryd.func57,Tryd.ntmps57
      go_wp2
      go_end0
      exact ⟨rfl,by rw [HF.out];exact H.out,Mv.refl _ _⟩
    · have hf:c.fail e = { c with e:=e }:=by unfold Cur.fail;rw [if_pos he]
      have z:(e != 0) = true:=bne_iff_ne.mpr hz
      have H:=Lib.hid h
      have HF:=Lib.hid hf
      have HV:=Lib.hid (ev_some hz)
      clear h hf he hz
      go_enter Tryd.func57,Tryd.ntmps57
      go_wp2
      go_end0
      exact ⟨rfl,by rw [HF.out];exact H.out.setErr e _ HV.out.symm,mv_at _ _ _ _⟩
  · have c2:=h.c2s he
    have hf:c.fail e = c:=by unfold Cur.fail;rw [if_neg he]
    have H:=Lib.hid h
    have HF:=Lib.hid hf
    clear h hf he
    go_enter Tryd.func57,Tryd.ntmps57
    go_wp2
    go_end0
    exact ⟨rfl,by rw [HF.out];exact H.out,Mv.refl _ _⟩
set_option maxRecDepth 100000 in
theorem assert_some (v:Value) (W:World):(Instr.typeAssert (.iface 115 v) 84 115 true).run Tryd.prog W = .ok (.tuple #[v,.bool true]) W:=by rfl
set_option maxRecDepth 100000 in
theorem assert_nil (W:World):(Instr.typeAssert .nilIface 84 115 true).run Tryd.prog W = .ok (.tuple #[.int .i64 0,.bool false]) W:=by kernel_rfl
theorem err_calls (g:Nat) (c:Cur) (w:World) (h:IsC w g c) :
    Calls Tryd.prog 25 #[.pointer (some ⟨g,0,none⟩)] w fun en w' => en = .returned (.int .i64 c.e)∧w = w':=by
  by_cases he:c.e = 0
  · have c2:=h.c2z he
    have HF:=Lib.hid he
    have hta:=assert_nil
    clear h he
    go_enter Tryd.func25,Tryd.ntmps25
    go_wp2
    go_ret
    exact ⟨by rw [HF.out];rfl,rfl⟩
  · have c2:=h.c2s he
    have hta:=assert_some
    clear h he
    go_enter Tryd.func25,Tryd.ntmps25
    go_wp2
    go_ret
    exact ⟨rfl,rfl⟩
theorem left_calls (g:Nat) (c:Cur) (w:World) (h:IsC w g c) (ok:c.ok) :
    Calls Tryd.prog 26 #[.pointer (some ⟨g,0,none⟩)] w fun en w' => en = .returned (.int .i64 c.left)∧Drawn0 w w':=by
  have c0:=h.c0
  have c1:=h.c1
  obtain ⟨k1,k2⟩:=ok
  obtain ⟨b,a,er⟩:=c
  simp only at *
  clear h
  go_enter Tryd.func26,Tryd.ntmps26
  go_wp2
  go_quiet (fail)
  go_wp2
  go_ret
  exact ⟨rfl,⟨⟨_,rfl⟩⟩⟩
theorem bytes_calls (g:Nat) (c:Cur) (n:Int) (w:World) (h:IsC w g c) (ok:c.ok) (n1:n≤9223372036854775807) :
    Calls Tryd.prog 90 #[.pointer (some ⟨g,0,none⟩),.int .i64 n] w fun en w' => en = .returned (.string (c.bytes n).1)∧IsC w' g (c.bytes n).2∧Mv (one g) w w':=by
  by_cases he:c.e = 0
  · have c2:=h.c2z he
    by_cases hz:n < 0
    · have hf:c.bytes n = (⟨#[]⟩,c.fail 1):=by unfold Cur.bytes Cur.fail;rw [if_neg (by simpa using he),if_pos hz,if_pos he]
      have H:=Lib.hid h
      have HF:=Lib.hid hf
      have z:decide (n < 0) = true:=decide_eq_true hz
      clear h hf he
      go_enter Tryd.func90,Tryd.ntmps90
      go_wp2_with (fail)
      refine (fail_calls g c 1 _ H.out).mono ?_
      rintro e w1 ⟨rfl,h1,h2⟩
      go_wp2_with (fail)
      go_ret
      exact ⟨by rw [HF.out];rfl,by rw [HF.out];exact h1,h2⟩
    · have z:decide (n < 0) = false:=decide_eq_false hz
      by_cases hl:c.left < n
      · have hf:c.bytes n = (⟨#[]⟩,c.fail 2):=by unfold Cur.bytes Cur.fail;rw [if_neg (by simpa using he),if_neg hz,if_pos hl,if_pos he]
        have H:=Lib.hid h
        have HF:=Lib.hid hf
        have z2:decide (c.left < n) = true:=decide_eq_true hl
        clear h hf he
        go_enter Tryd.func90,Tryd.ntmps90
        go_wp2_with (fail)
        refine (left_calls g c _ H.out ok).mono ?_
        rintro e w1 ⟨rfl,⟨m1,rfl⟩⟩
        go_wp2_with (fail)
        refine (fail_calls g c 2 _ (H.out.drewN m1)).mono ?_
        rintro e w1 ⟨rfl,h1,h2⟩
        go_wp2_with (fail)
        go_ret
        exact ⟨by rw [HF.out];rfl,by rw [HF.out];exact h1,((Mv.refl _ _).drewN m1).step h2⟩
      · have hf:c.bytes n = (c.b.extract c.at' (c.at'+n.toNat),{ c with at':=c.at'+n.toNat }):=by unfold Cur.bytes;rw [if_neg (by simpa using he),if_neg hz,if_neg hl]
        have z2:decide (c.left < n) = false:=decide_eq_false hl
        have H:=Lib.hid h
        have HF:=Lib.hid hf
        have c0:=h.c0
        have c1:=h.c1
        have f1:=h.f1
        have OK:=Lib.hid ok
        obtain ⟨k1,k2⟩:=ok
        obtain ⟨m,rfl⟩:=Int.eq_ofNat_of_zero_le (show 0≤n by omega)
        have k3:c.at'+m≤c.b.size:=by unfold Cur.left at hl;omega
        clear h hf he hl hz
        go_enter Tryd.func90,Tryd.ntmps90
        go_wp2_with (fail)
        refine (left_calls g c _ H.out OK.out).mono ?_
        rintro e w1 ⟨rfl,⟨m1,rfl⟩⟩
        obtain ⟨b,a,er⟩:=c
        simp only at *
        have hsl:=fun W => slice_str (P:=Tryd.prog) Tryd.underlying9 b a (a+m) (by omega) (by omega) (x:=(a:Int)) (y:=(a:Int)+(m:Int)) rfl (by omega) W
        go_wp2_with (fail)
        go_quiet (fail)
        go_wp2_with (fail)
        go_ret
        exact ⟨by rw [HF.out];rfl,by rw [HF.out];exact (IsC.drewN H.out _).setAt _,mv_set ((Mv.refl _ _).drewN _) _ _⟩
  · have c2:=h.c2s he
    have hf:c.bytes n = (⟨#[]⟩,c):=by unfold Cur.bytes;rw [if_pos (by simpa using he)]
    have H:=Lib.hid h
    have HF:=Lib.hid hf
    clear h hf he
    go_enter Tryd.func90,Tryd.ntmps90
    go_wp2_with (fail)
    go_ret
    exact ⟨by rw [HF.out];rfl,by rw [HF.out];exact H.out,Mv.refl _ _⟩
theorem number_calls (g:Nat) (c:Cur) (w:World) (h:IsC w g c) (ok:c.ok) :
    Calls Tryd.prog 83 #[.pointer (some ⟨g,0,none⟩)] w fun en w' => en = .returned (.tuple #[.int .u64 c.number.1,.int .i64 c.number.2.1])∧IsC w' g c.number.2.2∧Mv (one g) w w':=by
  have c0:=h.c0
  have c1:=h.c1
  have H:=Lib.hid h
  have OK:=Lib.hid ok
  by_cases he:c.e = 0
  · have c2:=h.c2z he
    have hf:c.number = ((gt c.b c.at').1,(gt c.b c.at').2.1,c.fail (gt c.b c.at').2.2):=by unfold Cur.number;rw [if_neg (by simpa using he)]
    have HF:=Lib.hid hf
    clear h hf he ok
    go_enter Tryd.func83,Tryd.ntmps83
    go_wp2_with (fail)
    go_quiet ((go_at_call 101;exact quietD (get_calls c.b OK.out.2 c.at' OK.out.1 _)))
    go_wp2_with (fail)
    refine (fail_calls g c _ _ (H.out.drewN _)).mono ?_
    rintro e w1 ⟨rfl,h1,h2⟩
    go_wp2_with (fail)
    go_ret2
    exact ⟨by rw [HF.out];rfl,by rw [HF.out];exact h1,((Mv.refl _ _).drewN _).step h2⟩
  · have c2:=h.c2s he
    have hf:c.number = (0,(c.at':Int),c):=by unfold Cur.number;rw [if_pos (by simpa using he)]
    have HF:=Lib.hid hf
    clear h hf he ok
    go_enter Tryd.func83,Tryd.ntmps83
    go_wp2_with (fail)
    go_quiet (fail)
    go_wp2_with (fail)
    go_ret2
    exact ⟨by rw [HF.out];rfl,by rw [HF.out];exact H.out.drewN _,(Mv.refl _ _).drewN _⟩
theorem uint_fail (c:Cur) (most:Int) (h:¬ c.number.2.2.e = 0):c.uint most = (0,c.number.2.2):=by
  unfold Cur.number at *
  unfold Cur.uint
  by_cases he:c.e≠0
  · rw [if_pos he,if_pos he]
  · rw [if_neg he] at h ⊢
    have he':c.e = 0:=by simpa using he
    unfold Cur.fail at *
    rw [if_pos he'] at h ⊢
    rw [if_neg he,if_pos h]
theorem number_good (c:Cur) (h:c.number.2.2.e = 0):c.e = 0∧c.number.2.2 = c∧c.number.1 = (gt c.b c.at').1∧c.number.2.1 = (gt c.b c.at').2.1∧(gt c.b c.at').2.2 = 0:=by
  unfold Cur.number at *
  by_cases he:c.e≠0
  · rw [if_pos he] at h;exact absurd h he
  · rw [if_neg he] at h ⊢
    have he':c.e = 0:=by simpa using he
    unfold Cur.fail at *
    rw [if_pos he'] at h ⊢
    simp only at h
    refine ⟨he',?_,rfl,rfl,h⟩
    obtain ⟨b,a,er⟩:=c
    simp only at *
    rw [h,he']
theorem uint_good (c:Cur) (most:Int) (h:c.number.2.2.e = 0):c.uint most = if c.number.1 > most ∨ c.number.1 > 16777216 then (0,{ c with e:=19 }) else (c.number.1,{ c with at':=c.number.2.1.toNat }):=by
  obtain ⟨h1,h2,h3,h4,h5⟩:=number_good c h
  unfold Cur.uint
  rw [if_neg (by simpa using h1),if_neg (by simpa using h5),h3,h4]
theorem number_range (c:Cur) (ok:c.ok):0≤c.number.1∧c.number.1≤18446744073709551615∧0≤c.number.2.1∧c.number.2.1≤9223372036854775807:=by
  obtain ⟨k1,k2⟩:=ok
  unfold Cur.number
  split
  · simp only;omega
  · rcases gt_cases c.b c.at' with ⟨v,n,e,h3,h4,_⟩ | e | e
    all_goals (rw [e];simp only;omega)
theorem uint_walk_big (g:Nat) (c c':Cur) (most x y:Int) (w:World) (h:IsC w g c) (ok:c.ok) (m0:0≤most) (r1:0≤x) (hn:c.number = (x,y,c')) (hg:c'.e = 0) (hb:most < x ∨ 16777216 < x) :
    Calls Tryd.prog 56 #[.pointer (some ⟨g,0,none⟩),.int .u64 most] w fun en w' => en = .returned (.int .i64 0)∧IsC w' g (c'.fail 19)∧Mv (one g) w w':=by
  have H:=Lib.hid h
  have HN:=Lib.hid hn
  have HG:=Lib.hid hg
  clear h hn hg
  have hm:(16777216 < most∧16777216 < x) ∨ (¬ 16777216 < most∧most < x):=by omega
  clear hb
  rcases hm with ⟨hm,hx⟩ | ⟨hm,hx⟩
  all_goals
    go_enter Tryd.func56,Tryd.ntmps56
    go_wp2_with (fail)
    refine (number_calls g c _ H.out ok).mono ?_
    rw [HN.out]
    rintro e w1 ⟨rfl,h1,h2⟩
    have c2:=h1.c2z HG.out
    have H1:=Lib.hid h1
    clear h1
    go_wp2_with (fail)
    refine (fail_calls g c' 19 _ H1.out).mono ?_
    rintro e w2 ⟨rfl,h3,h4⟩
    have c3:=h3.c2s (show ¬ (c'.fail 19).e = 0 by unfold Cur.fail;rw [if_pos HG.out];simp)
    have H3:=Lib.hid h3
    clear h3 c2
    go_wp2_with (fail)
    go_ret
    exact ⟨rfl,H3.out,h2.step h4⟩
theorem uint_walk_err (g:Nat) (c c':Cur) (most x y:Int) (w:World) (h:IsC w g c) (ok:c.ok) (hn:c.number = (x,y,c')) (hg:¬ c'.e = 0) :
    Calls Tryd.prog 56 #[.pointer (some ⟨g,0,none⟩),.int .u64 most] w fun en w' => en = .returned (.int .i64 0)∧IsC w' g c'∧Mv (one g) w w':=by
  have H:=Lib.hid h
  have HN:=Lib.hid hn
  have HG:=Lib.hid hg
  clear h hn hg
  go_enter Tryd.func56,Tryd.ntmps56
  go_wp2_with (fail)
  refine (number_calls g c _ H.out ok).mono ?_
  rw [HN.out]
  rintro e w1 ⟨rfl,h1,h2⟩
  have c2:=h1.c2s HG.out
  have H1:=Lib.hid h1
  clear h1
  go_wp2_with (fail)
  go_ret
  exact ⟨rfl,H1.out,h2⟩
theorem uint_walk_ok (g:Nat) (c c':Cur) (most x:Int) (y:Nat) (w:World) (h:IsC w g c) (ok:c.ok) (m0:0≤most) (r1:0≤x) (hn:c.number = (x,(y:Int),c')) (hg:c'.e = 0) (hb:x≤most) (hb2:x≤16777216) :
    Calls Tryd.prog 56 #[.pointer (some ⟨g,0,none⟩),.int .u64 most] w fun en w' => en = .returned (.int .i64 x)∧IsC w' g { c' with at':=y }∧Mv (one g) w w':=by
  have H:=Lib.hid h
  have HN:=Lib.hid hn
  have HG:=Lib.hid hg
  clear h hn hg
  by_cases hm:16777216 < most
  all_goals
    go_enter Tryd.func56,Tryd.ntmps56
    go_wp2_with (fail)
    refine (number_calls g c _ H.out ok).mono ?_
    rw [HN.out]
    rintro e w1 ⟨rfl,h1,h2⟩
    have c2:=h1.c2z HG.out
    have f1:=h1.f1
    have c1:=h1.c1
    have H1:=Lib.hid h1
    clear h1
    go_wp2_with (fail)
    go_ret
    exact ⟨rfl,H1.out.setAt y,h2.step (mv_at _ _ _ _)⟩
theorem uint_calls (g:Nat) (c:Cur) (most:Int) (w:World) (h:IsC w g c) (ok:c.ok) (m0:0≤most) :
    Calls Tryd.prog 56 #[.pointer (some ⟨g,0,none⟩),.int .u64 most] w fun en w' => en = .returned (.int .i64 (c.uint most).1)∧IsC w' g (c.uint most).2∧Mv (one g) w w':=by
  obtain ⟨r1,r2,r3,r4⟩:=number_range c ok
  by_cases hg:c.number.2.2.e = 0
  · have hu:=uint_good c most hg
    obtain ⟨hce,hc,_⟩:=number_good c hg
    by_cases hb:c.number.1 > most ∨ c.number.1 > 16777216
    · refine (uint_walk_big g c c.number.2.2 most c.number.1 c.number.2.1 w h ok m0 r1 rfl hg hb).mono ?_
      rintro e w1 ⟨rfl,h1,h2⟩
      rw [hu,if_pos hb]
      refine ⟨rfl,?_,h2⟩
      rw [hc] at h1
      unfold Cur.fail at h1
      rw [if_pos hce] at h1
      exact h1
    · obtain ⟨y,hy⟩:=Int.eq_ofNat_of_zero_le r3
      refine (uint_walk_ok g c c.number.2.2 most c.number.1 y w h ok m0 r1 (by rw [← hy]) hg (by omega) (by omega)).mono ?_
      rintro e w1 ⟨rfl,h1,h2⟩
      rw [hu,if_neg hb]
      refine ⟨rfl,?_,h2⟩
      rw [hc] at h1
      rw [hy,Int.toNat_natCast]
      exact h1
  · refine (uint_walk_err g c c.number.2.2 most c.number.1 c.number.2.1 w h ok rfl hg).mono ?_
    rintro e w1 ⟨rfl,h1,h2⟩
    rw [uint_fail c most hg]
    exact ⟨rfl,h1,h2⟩
theorem int_fail (c:Cur) (h:¬ c.number.2.2.e = 0):c.int = (0,c.number.2.2):=by
  unfold Cur.number at *
  unfold Cur.int
  by_cases he:c.e≠0
  · rw [if_pos he,if_pos he]
  · rw [if_neg he] at h ⊢
    have he':c.e = 0:=by simpa using he
    unfold Cur.fail at *
    rw [if_pos he'] at h ⊢
    rw [if_neg he,if_pos h]
theorem int_good (c:Cur) (h:c.number.2.2.e = 0):c.int = (zag c.number.1,{ c with at':=c.number.2.1.toNat }):=by
  obtain ⟨h1,h2,h3,h4,h5⟩:=number_good c h
  unfold Cur.int
  rw [if_neg (by simpa using h1),if_neg (by simpa using h5),h3,h4]
theorem int_walk_err (g:Nat) (c c':Cur) (x y:Int) (w:World) (h:IsC w g c) (ok:c.ok) (hn:c.number = (x,y,c')) (hg:¬ c'.e = 0) :
    Calls Tryd.prog 84 #[.pointer (some ⟨g,0,none⟩)] w fun en w' => en = .returned (.int .i64 0)∧IsC w' g c'∧Mv (one g) w w':=by
  have H:=Lib.hid h
  have HN:=Lib.hid hn
  have HG:=Lib.hid hg
  clear h hn hg
  go_enter Tryd.func84,Tryd.ntmps84
  go_wp2_with (fail)
  refine (number_calls g c _ H.out ok).mono ?_
  rw [HN.out]
  rintro e w1 ⟨rfl,h1,h2⟩
  have c2:=h1.c2s HG.out
  have H1:=Lib.hid h1
  clear h1
  go_wp2_with (fail)
  go_ret
  exact ⟨rfl,H1.out,h2⟩
theorem int_walk_ok (g:Nat) (c c':Cur) (x:Int) (y:Nat) (w:World) (h:IsC w g c) (ok:c.ok) (r1:0≤x) (r2:x≤18446744073709551615) (hn:c.number = (x,(y:Int),c')) (hg:c'.e = 0) :
    Calls Tryd.prog 84 #[.pointer (some ⟨g,0,none⟩)] w fun en w' => en = .returned (.int .i64 (zag x))∧IsC w' g { c' with at':=y }∧Mv (one g) w w':=by
  have H:=Lib.hid h
  have HN:=Lib.hid hn
  have HG:=Lib.hid hg
  have HZ:=Lib.hid (fun W => zag_calls x r1 (by omega) W)
  clear h hn hg r2
  go_enter Tryd.func84,Tryd.ntmps84
  go_wp2_with (fail)
  refine (number_calls g c _ H.out ok).mono ?_
  rw [HN.out]
  rintro e w1 ⟨rfl,h1,h2⟩
  have c2:=h1.c2z HG.out
  have f1:=h1.f1
  have c1:=h1.c1
  have H1:=Lib.hid h1
  clear h1
  go_wp2_with (fail)
  refine (HZ.out _).mono ?_
  rintro e w2 ⟨rfl,hd⟩
  go_wp2_with (fail)
  go_ret
  exact ⟨rfl,(H1.out.setAt y).drawn hd,(h2.step (mv_at _ _ _ _)).step (Mv.of_drawn hd)⟩
theorem int_calls (g:Nat) (c:Cur) (w:World) (h:IsC w g c) (ok:c.ok) :
    Calls Tryd.prog 84 #[.pointer (some ⟨g,0,none⟩)] w fun en w' => en = .returned (.int .i64 c.int.1)∧IsC w' g c.int.2∧Mv (one g) w w':=by
  obtain ⟨r1,r2,r3,r4⟩:=number_range c ok
  by_cases hg:c.number.2.2.e = 0
  · have hu:=int_good c hg
    obtain ⟨hce,hc,_⟩:=number_good c hg
    obtain ⟨y,hy⟩:=Int.eq_ofNat_of_zero_le r3
    refine (int_walk_ok g c c.number.2.2 c.number.1 y w h ok r1 r2 (by rw [← hy]) hg).mono ?_
    rintro e w1 ⟨rfl,h1,h2⟩
    rw [hu]
    refine ⟨rfl,?_,h2⟩
    rw [hc] at h1
    rw [hy,Int.toNat_natCast]
    exact h1
  · refine (int_walk_err g c c.number.2.2 c.number.1 c.number.2.1 w h ok rfl hg).mono ?_
    rintro e w1 ⟨rfl,h1,h2⟩
    rw [int_fail c hg]
    exact ⟨rfl,h1,h2⟩
theorem uint_callsE (g:Nat) (c:Cur) (most n:Int) (c1:Cur) (w:World) (h:IsC w g c) (ok:c.ok) (m0:0≤most) (hu:c.uint most = (n,c1)) :
    Calls Tryd.prog 56 #[.pointer (some ⟨g,0,none⟩),.int .u64 most] w fun en w' => en = .returned (.int .i64 n)∧IsC w' g c1∧Mv (one g) w w':=by
  have:=uint_calls g c most w h ok m0
  rw [hu] at this
  exact this
theorem bytes_callsE (g:Nat) (c:Cur) (n:Int) (s:ByteArray) (c2:Cur) (w:World) (h:IsC w g c) (ok:c.ok) (n1:n≤9223372036854775807) (hb:c.bytes n = (s,c2)) :
    Calls Tryd.prog 90 #[.pointer (some ⟨g,0,none⟩),.int .i64 n] w fun en w' => en = .returned (.string s)∧IsC w' g c2∧Mv (one g) w w':=by
  have:=bytes_calls g c n w h ok n1
  rw [hb] at this
  exact this
set_option maxHeartbeats 800000 in
set_option maxRecDepth 100000 in
theorem text_walk_err (g:Nat) (c c1 c2:Cur) (most n:Int) (s:ByteArray) (w:World) (h:IsC w g c) (ok:c.ok) (i0:-9223372036854775808≤most) (i1:most≤9223372036854775807)
    (hu:c.uint (if most < 0 then 0 else most) = (n,c1)) (n0:0≤n) (n1:n≤16777216) (hb:c1.bytes n = (s,c2)) (ok1:c1.ok) (he:¬ c2.e = 0) :
    Calls Tryd.prog 65 #[.pointer (some ⟨g,0,none⟩),.int .i64 most] w fun en w' => en = .returned (.string ⟨#[]⟩)∧IsC w' g { c2 with at':=c.at' }∧Mv (one g) w w':=by
  have H:=Lib.hid h
  have c1':=h.c1
  have HU:=Lib.hid hu
  have HB:=Lib.hid hb
  have HE:=Lib.hid he
  clear h hu hb he
  by_cases hm:most < 0
  · have HU2:Hid (c.uint 0 = (n,c1)):=by have:=HU.out;rw [if_pos hm] at this;exact Lib.hid this
    have hd:decide (most < 0) = true:=decide_eq_true hm
    clear HU
    go_enter Tryd.func65,Tryd.ntmps65
    go_wp2_with (fail)
    try rw [show max most (0:Int) = 0 by omega]
    refine (uint_callsE g c 0 n c1 _ H.out ok (by omega) HU2.out).mono ?_
    rintro e w1 ⟨rfl,h1,h2⟩
    go_wp2_with (fail)
    refine (bytes_callsE g c1 n s c2 _ h1 ok1 (by omega) HB.out).mono ?_
    rintro e w2 ⟨rfl,h3,h4⟩
    have k2:=h3.c2s HE.out
    have f1:=h3.f1
    have k1:=h3.c1
    have H3:=Lib.hid h3
    clear h3 h1
    go_wp2_with (fail)
    go_ret
    exact ⟨rfl,H3.out.setAt _,mv_set (h2.step h4) _ _⟩
  · have HU2:Hid (c.uint most = (n,c1)):=by have:=HU.out;rw [if_neg hm] at this;exact Lib.hid this
    have hd:decide (most < 0) = false:=decide_eq_false hm
    clear HU
    go_enter Tryd.func65,Tryd.ntmps65
    go_wp2_with (fail)
    try rw [show max most (0:Int) = most by omega]
    refine (uint_callsE g c most n c1 _ H.out ok (by omega) HU2.out).mono ?_
    rintro e w1 ⟨rfl,h1,h2⟩
    go_wp2_with (fail)
    refine (bytes_callsE g c1 n s c2 _ h1 ok1 (by omega) HB.out).mono ?_
    rintro e w2 ⟨rfl,h3,h4⟩
    have k2:=h3.c2s HE.out
    have f1:=h3.f1
    have k1:=h3.c1
    have H3:=Lib.hid h3
    clear h3 h1
    go_wp2_with (fail)
    go_ret
    exact ⟨rfl,H3.out.setAt _,mv_set (h2.step h4) _ _⟩
set_option maxHeartbeats 800000 in
set_option maxRecDepth 100000 in
theorem text_walk_ok (g:Nat) (c c1 c2:Cur) (most n:Int) (s:ByteArray) (w:World) (h:IsC w g c) (ok:c.ok) (i0:-9223372036854775808≤most) (i1:most≤9223372036854775807)
    (hu:c.uint (if most < 0 then 0 else most) = (n,c1)) (n0:0≤n) (n1:n≤16777216) (hb:c1.bytes n = (s,c2)) (ok1:c1.ok) (he:c2.e = 0) :
    Calls Tryd.prog 65 #[.pointer (some ⟨g,0,none⟩),.int .i64 most] w fun en w' => en = .returned (.string s)∧IsC w' g c2∧Mv (one g) w w':=by
  have H:=Lib.hid h
  have c1':=h.c1
  have HU:=Lib.hid hu
  have HB:=Lib.hid hb
  have HE:=Lib.hid he
  clear h hu hb he
  by_cases hm:most < 0
  · have HU2:Hid (c.uint 0 = (n,c1)):=by have:=HU.out;rw [if_pos hm] at this;exact Lib.hid this
    have hd:decide (most < 0) = true:=decide_eq_true hm
    clear HU
    go_enter Tryd.func65,Tryd.ntmps65
    go_wp2_with (fail)
    try rw [show max most (0:Int) = 0 by omega]
    refine (uint_callsE g c 0 n c1 _ H.out ok (by omega) HU2.out).mono ?_
    rintro e w1 ⟨rfl,h1,h2⟩
    go_wp2_with (fail)
    refine (bytes_callsE g c1 n s c2 _ h1 ok1 (by omega) HB.out).mono ?_
    rintro e w2 ⟨rfl,h3,h4⟩
    have k2:=h3.c2z HE.out
    have H3:=Lib.hid h3
    clear h3 h1
    go_wp2_with (fail)
    go_ret
    exact ⟨rfl,H3.out,h2.step h4⟩
  · have HU2:Hid (c.uint most = (n,c1)):=by have:=HU.out;rw [if_neg hm] at this;exact Lib.hid this
    have hd:decide (most < 0) = false:=decide_eq_false hm
    clear HU
    go_enter Tryd.func65,Tryd.ntmps65
    go_wp2_with (fail)
    try rw [show max most (0:Int) = most by omega]
    refine (uint_callsE g c most n c1 _ H.out ok (by omega) HU2.out).mono ?_
    rintro e w1 ⟨rfl,h1,h2⟩
    go_wp2_with (fail)
    refine (bytes_callsE g c1 n s c2 _ h1 ok1 (by omega) HB.out).mono ?_
    rintro e w2 ⟨rfl,h3,h4⟩
    have k2:=h3.c2z HE.out
    have H3:=Lib.hid h3
    clear h3 h1
    go_wp2_with (fail)
    go_ret
    exact ⟨rfl,H3.out,h2.step h4⟩
theorem uint_stay (c:Cur) (most:Int) (h:¬ c.e = 0):c.uint most = (0,c):=by unfold Cur.uint;rw [if_pos h]
theorem bytes_stay (c:Cur) (n:Int) (h:¬ c.e = 0):c.bytes n = (⟨#[]⟩,c):=by unfold Cur.bytes;rw [if_pos h]
theorem text_calls (g:Nat) (c:Cur) (most:Int) (w:World) (h:IsC w g c) (ok:c.ok) (i0:-9223372036854775808≤most) (i1:most≤9223372036854775807) :
    Calls Tryd.prog 65 #[.pointer (some ⟨g,0,none⟩),.int .i64 most] w fun en w' => en = .returned (.string (c.text most).1)∧IsC w' g (c.text most).2∧Mv (one g) w w':=by
  have hr:=uint_range (c:=c) (if most < 0 then 0 else most)
  have hk:=uint_ok ok (if most < 0 then 0 else most)
  have hb1:=uint_b (c:=c) (if most < 0 then 0 else most)
  generalize hu:c.uint (if most < 0 then 0 else most) = u at *
  obtain ⟨n,c1⟩:=u
  have hb2:=bytes_b (c:=c1) n
  generalize hb:c1.bytes n = v at *
  obtain ⟨s,c2⟩:=v
  simp only at hr hk hb1 hb2
  by_cases he:c2.e = 0
  · refine (text_walk_ok g c c1 c2 most n s w h ok i0 i1 hu hr.1 hr.2 hb hk he).mono ?_
    rintro e w1 ⟨rfl,h1,h2⟩
    have hce:c.e = 0:=by
      apply Decidable.byContradiction
      intro hce
      have e1:=uint_stay c (if most < 0 then 0 else most) hce
      rw [hu] at e1
      obtain ⟨rfl,rfl⟩:=Prod.mk.inj e1
      rw [bytes_stay _ _ hce] at hb
      obtain ⟨rfl,rfl⟩:=Prod.mk.inj hb
      exact hce he
    have ht:c.text most = (s,c2):=by
      unfold Cur.text Cur.textOf
      rw [if_neg (by simpa using hce),hu,hb,if_neg (by simpa using he)]
    rw [ht]
    exact ⟨rfl,h1,h2⟩
  · refine (text_walk_err g c c1 c2 most n s w h ok i0 i1 hu hr.1 hr.2 hb hk he).mono ?_
    rintro e w1 ⟨rfl,h1,h2⟩
    have ht:c.text most = (⟨#[]⟩,{ c2 with at':=c.at' }):=by
      unfold Cur.text Cur.textOf
      by_cases hce:c.e = 0
      · rw [if_neg (by simpa using hce),hu,hb,if_pos (by simpa using he)]
        congr 1
        rw [hb2,hb1]
      · rw [if_pos (by simpa using hce)]
        have e1:=uint_stay c (if most < 0 then 0 else most) hce
        rw [hu] at e1
        obtain ⟨rfl,rfl⟩:=Prod.mk.inj e1
        rw [bytes_stay _ _ hce] at hb
        obtain ⟨rfl,rfl⟩:=Prod.mk.inj hb
        rfl
    rw [ht]
    exact ⟨rfl,h1,h2⟩
end Go.Proofs.YtoigkneoaemcfaaDoor.Cur
