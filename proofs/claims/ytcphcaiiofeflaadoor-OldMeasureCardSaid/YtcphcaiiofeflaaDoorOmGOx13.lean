
import Derived.Test.YtcphcaiiofeflaaDoorOmGOx0
import Derived.Test.YtcphcaiiofeflaaDoorOmGOx12
namespace Go.Proofs.YtcphcaiiofeflaaDoor.GO
open Go.RowKit Go.Proofs.YtcphcaiiofeflaaDoorW.PrintWords Go.Proofs.YtcphcaiiofeflaaDoorW.PrintLast Go.Proofs.YtcphcaiiofeflaaDoorW.PrintMore
attribute [local go_sem] max2_int min2_int max_two min_two max_three min_three max_four min_four
set_option maxHeartbeats 8000000
set_option maxRecDepth 100000
set_option linter.unusedVariables false
set_option linter.unusedSimpArgs false
def Repeat.cur (c:Int) (N k:Nat):List Value:=List.replicate k (.int .i64 c) ++ List.replicate (N - k) (.int .i64 0)
theorem Repeat.cur_len (c:Int) {N k:Nat} (h:k≤N):(Repeat.cur c N k).length = N:=by simp [Repeat.cur];omega
theorem Repeat.cur_splice (c:Int) (N k d:Nat) (h:k+d≤N):Go.splice (Repeat.cur c N k) k (List.replicate d (.int .i64 c)) = Repeat.cur c N (k+d):=by
 unfold Go.splice Repeat.cur
 rw [List.take_append_of_le_length (by simp),List.take_of_length_le (by simp),List.length_replicate,List.drop_append,List.drop_eq_nil_of_le (by simp),List.nil_append,List.drop_replicate,← List.append_assoc,List.replicate_append_replicate,List.length_replicate];congr 2
 omega
theorem Repeat.mk (P:Program) (hu:P.underlying 51 = some (.slice 3)) (hinfo:(P.info? 3).map (fun i => (i.zero,i.size,i.bytes)) = some (some (.int .i64 0),1,8)) (N:Nat) (h:N≤1000) (W:World) :
  (Instr.makeSlice 51 (.int .i64 (N:Int)) (.int .i64 (N:Int))).run P W = .ok (.slice (some ⟨W.heap.size,0,none⟩) N N) (W.alloc (.cells (Array.replicate N (Value.int .i64 0)) 3)):=by
 obtain ⟨i0,hi,hzz⟩:=Option.map_eq_some_iff.1 hinfo;simp only [Prod.mk.injEq] at hzz;obtain ⟨hz0,hz1,hz2⟩:=hzz;have hr:=run_make (P:=P) W 51 3 i0 _ hu hi hz0 .i64 .i64 (N:Int) (N:Int) (by omega) (by omega) (by rw [hz2];omega) (by omega);simp only [Int.toNat_natCast] at hr;rw [hr,hz1];congr 3
 apply Array.ext
 ·simp [madeCells]
 ·intro i h1 h2;simp [madeCells,Value.cells,Nat.mod_one]
theorem Repeat.reps (R:Int→List Value→Prop) (c:Int) (h:R c [.int .i64 c]):∀ N,Reps R 1 (List.replicate N c) (List.replicate N (.int .i64 c))
 | 0 => Reps.none _ _
 | N+1 => Reps.one h (Repeat.reps R c h N)
theorem Repeat.own (W:World) (base N g:Nat) (c:Int) (hb:base≤g) (h:W.heap[g]? = some (.cells (Repeat.cur c N N).toArray 3 (0,0))) (hm:N≤1000):Kd.R (Kd.int .i64) 3 W base (fun _ => True) (.slice (some ⟨g,0,none⟩) N N) (List.replicate N c):=by
 refine ⟨fun _ _ => trivial,List.replicate N (.int .i64 c),⟨by simp [Kd.int,Kd.scalar],.inr ⟨g,N,_,by simp,hb,h,by simp,by simp [maxLen];omega,?_,?_⟩⟩,?_⟩
 ·simp [Repeat.cur,Kd.int,Kd.scalar]
 ·simp [Repeat.cur,Kd.int,Kd.scalar]
 ·exact Repeat.reps _ c rfl N
def slices_Repeat_int_int.f (l0:List Int) (a1:Int):Option (List Int):=if l0.length = 1 then (if a1 = 1 ∨ a1 = 3 ∨ a1 = 4 then some (List.replicate a1.toNat (rd l0 0)) else none) else none
set_option maxHeartbeats 4000000 in
set_option maxRecDepth 100000 in
theorem slices_Repeat_int_int.at (A:Option Addr) (c0:Nat) (c:Int) (N:Nat) (w:World) (hA:∃ ad,A = some ad∧∀ W':World,Below w.heap.size w W'→W'.cell? ad = some (.int .i64 c)) (hN:1≤N) (hm:N≤1000) (hq:bits_Mul.f 1 N = some (0,(N:Int))) :
  Calls Tryd.prog 88 #[.slice A 1 c0,.int .i64 N] w fun e w' => e = .returned (.slice (some ⟨w.heap.size,0,none⟩) N N)∧w'.heap[w.heap.size]? = some (.cells (Repeat.cur c N N).toArray 3 (0,0))∧Below w.heap.size w w':=by
 obtain ⟨ad,rfl,had⟩:=hA;have mk:=Repeat.mk Tryd.prog Tryd.underlying51 info3 N hm;have HD:=Lib.hid had;have HQ:=Lib.hid hq;clear had hq;have z1:decide ((N:Int) < 0) = false:=decide_eq_false (by omega);have z2:decide ((N:Int) > 9223372036854775807) = false:=decide_eq_false (by omega);have z3:IntKind.u64.wrap (N:Int) = N:=by rw [IntKind.wrap_u64];omega
 have z4:IntKind.i64.wrap (N:Int) = N:=by rw [IntKind.wrap_i64];omega
 go_enter Tryd.func88,Tryd.ntmps88;go_wp2_with (fail)
 refine (bits_Mul.calls 1 N 0 N _ HQ.out).mono ?_;rintro e w1 ⟨rfl,m,rfl⟩;have hsz:(Tryd.prog.info? 3).map (·.size) = some 1:=by
  obtain ⟨i0,hi,hzz⟩:=Option.map_eq_some_iff.1 info3;simp only [Prod.mk.injEq] at hzz;rw [hi];simp [hzz.2.1]
 have hg0:=Lib.hid (show ((w.drewN m).alloc (.cells (Array.replicate N (Value.int .i64 0)) 3)).heap[w.heap.size]? = some (.cells (Repeat.cur c N 0).toArray 3 (0,0)) from by
  have:=heap_alloc_new (w.drewN m) (.cells (Array.replicate N (Value.int .i64 0)) 3);simpa [Repeat.cur] using this)
 have hb0:=Lib.hid (show Below w.heap.size w ((w.drewN m).alloc (.cells (Array.replicate N (Value.int .i64 0)) 3)) from by apply below_alloc;apply pw_below_drewN;exact Below.refl _ _);have hd0:=Lib.hid (show ((w.drewN m).alloc (.cells (Array.replicate N (Value.int .i64 0)) 3)).cell? ad = some (.int .i64 c) from HD.out _ hb0.out);have hn1:([Value.int .i64 c]:List Value).length = Nat.min 1 N:=by show 1 = min 1 N;omega
 have hp1:0 < ([Value.int .i64 c]:List Value).length→(some ⟨w.heap.size,0,none⟩:Option Addr) = some ⟨w.heap.size,0,none⟩∧∃ ad',some ad = some ad'∧∀ j v,([Value.int .i64 c]:List Value)[j]? = some v→((w.drewN m).alloc (.cells (Array.replicate N (Value.int .i64 0)) 3)).cell? (ad'.add j) = some v:=by
  refine fun _ => ⟨rfl,ad,rfl,fun j v hj => ?_⟩
  match j,hj with
  | 0,hj =>
   have hz:ad.add 0 = ad:=by simp [Addr.add]
   rw [hz,hd0.out];simpa using hj
  | j+1,hj => simp at hj
 have hf1:0+([Value.int .i64 c]:List Value).length≤(Repeat.cur c N 0).length:=by rw [Repeat.cur_len c (Nat.zero_le _)];exact hN
 have ho1:∀ v ∈ ([Value.int .i64 c]:List Value),v.oneCell' = true:=by intro v hv;simp at hv;subst hv;rfl
 have HP1:=Lib.hid hp1;clear hp1;go_wp2_with ((with_reducible refine gate_dst (N:=33) rfl ?_);refine wpList_copy_splice rfl (.tmp 31) (.tmp 32) 51 51 rfl 3 Tryd.underlying51 hsz (some ⟨w.heap.size,0,none⟩) (some ad) N N 1 c0 rfl rfl w.heap.size 0 (Repeat.cur c N 0) 3 hg0.out [.int .i64 c] hn1 (fun hh => ⟨rfl,(HP1.out hh).2⟩) hf1 ho1 w.heap.size w hb0.out (Nat.le_refl _) ?_;intro w2 hg2 hb2)
 clear hn1 HP1 hf1 ho1;go_loopw [8,46] (fun v _ wr => ∃ k:Nat,v = .int .i64 k∧1≤k∧k≤N∧Hid (wr.heap[w.heap.size]? = some (.cells (Repeat.cur c N k).toArray 3 (0,0)))∧Below w.heap.size w wr) (fun v _ _ => N - (Go.RowKit.intOf v).toNat)
 case atStart =>
  refine ⟨1,rfl,Nat.le_refl _,hN,?_,hb2⟩;have:=hg2.out;rw [show ([Value.int .i64 c]:List Value) = List.replicate 1 (.int .i64 c) from rfl,Repeat.cur_splice c N 0 1 (by omega)] at this;exact Lib.hid this
 case round =>
  clear hg2 hb2;obtain ⟨k,rfl,h1,h2,hg,hb⟩:=hrel;by_cases hlt:k < N
  ·have t1:decide ((k:Int) < N) = true:=decide_eq_true (by omega);have b1:(0:Int)≤k:=by omega
   have b2:(k:Int)≤N:=by omega
   have src:0 < (List.replicate (min k (N - k)) (Value.int .i64 c)).length→(some ⟨w.heap.size,k,none⟩:Option Addr) = some ⟨w.heap.size,k,none⟩∧∃ ad',(some ⟨w.heap.size,0,none⟩:Option Addr) = some ad'∧∀ j v,(List.replicate (min k (N - k)) (Value.int .i64 c))[j]? = some v→wr.cell? (ad'.add j) = some v:=by
    refine fun _ => ⟨rfl,_,rfl,fun j v hj => ?_⟩
    have hj1:j < min k (N - k):=by
     rcases Nat.lt_or_ge j (min k (N - k)) with h | h
     ·exact h
     ·rw [List.getElem?_eq_none (by simpa using h)] at hj;cases hj
    have e:(Repeat.cur c N k)[j]? = some v:=by
     rw [Repeat.cur,List.getElem?_append_left (by simp;omega)];rw [List.getElem?_replicate,if_pos hj1] at hj;rw [List.getElem?_replicate,if_pos (by omega)];exact hj
    have:=blk_cell hg.out j;have hj3:(⟨w.heap.size,0,none⟩:Addr).add j = ⟨w.heap.size,j,none⟩:=by
     simp only [Addr.add,Nat.zero_add];split <;> simp_all
    rw [hj3,this];simpa using e
   have SRC:=Lib.hid src;have wk:IntKind.i64.wrap ((k:Int)+((min k (N - k):Nat):Int)) = ((k+min k (N - k):Nat):Int):=by rw [IntKind.wrap_i64];omega
   clear src;have e1:(0:Nat)+k = k:=Nat.zero_add _;go_wp2_with (fail)
   go_region_law (refine step_copy_splice rfl (.tmp 41) (.tmp 44) 51 51 rfl 3 Tryd.underlying51 hsz (some ⟨w.heap.size,k,none⟩) (some ⟨w.heap.size,0,none⟩) (N - k) (N - k) k N (by simp [Act.eval,Act.put];omega) (by simp [Act.eval,Act.put]) w.heap.size k (Repeat.cur c N k) 3 hg.out (List.replicate (min k (N - k)) (.int .i64 c)) (by rw [List.length_replicate]) (fun hh => ⟨rfl,(SRC.out hh).2⟩) (by rw [Repeat.cur_len c h2,List.length_replicate];omega) (by intro v hv;rw [List.eq_of_mem_replicate hv];rfl) w.heap.size w (by apply below_drew1;exact hb) (Nat.le_refl _) ?_;intro w4 hg4 hb4)
   have hg5:=hg4.out;rw [Repeat.cur_splice c N k (min k (N - k)) (by omega)] at hg5;have HG5:=Lib.hid hg5;clear hg4 hg5;go_wp2_with (fail)
   go_roundw
   case rel => exact ⟨k+min k (N - k),by omega,by omega,by omega,HG5⟩
   case measure =>
    simp only [Go.RowKit.intOf,Int.toNat_natCast];omega
  ·have t1:decide ((k:Int) < N) = false:=decide_eq_false (by omega);obtain rfl:k = N:=by omega
   go_wp2_with (fail)
   go_ret;exact ⟨rfl,hg.out,hb⟩
theorem slices_Repeat_int_int.calls (A0:Option Addr) (c0:Nat) (l0:List Int) (a1:Int) (r:List Int) (w:World) (hr0:Kd.C (Kd.int .i64) w A0 l0.length l0) (hc0:l0.length≤c0) (h:slices_Repeat_int_int.f l0 a1 = some r) :
  Calls Tryd.prog 88 #[.slice A0 l0.length c0,.int .i64 a1] w fun e w' => ∃ v0_:Value,e = .returned (v0_)∧Kd.R (Kd.int .i64) 3 w' w.heap.size (fun _ => True) v0_ r∧Below w.heap.size w w':=by
 unfold slices_Repeat_int_int.f at h
 by_cases h1:l0.length = 1
 ·rw [if_pos h1] at h;by_cases h2:a1 = 1 ∨ a1 = 3 ∨ a1 = 4
  ·rw [if_pos h2] at h;obtain rfl:=Option.some.inj h;obtain ⟨c,rfl⟩:∃ c,l0 = [c]:=by
    match l0,h1 with
    | [c],_ => exact ⟨c,rfl⟩
   have hc:(rd [c] 0) = c:=rfl;rw [hc];have hA:∃ ad,A0 = some ad∧∀ W':World,Below w.heap.size w W'→W'.cell? ad = some (.int .i64 c):=by
    obtain ⟨ad,cs,e,_,hK,hc0⟩:=Kd.C_get hr0 (0:Int) 0 (by omega) (by simp);refine ⟨ad,e,fun W' hW => ?_⟩;obtain ⟨ad2,cs2,e2,_,hK2,hc2⟩:=Kd.C_get (Kd.C_below hr0 hW) (0:Int) 0 (by omega) (by simp);obtain rfl:=Option.some.inj (e.symm.trans e2);obtain rfl:cs2 = [.int .i64 c]:=hK2;have:=hc2 0 _ rfl;simpa [Addr.add] using this
   have go:∀ N:Nat,a1 = N→1≤N→N≤1000→bits_Mul.f 1 N = some (0,(N:Int))→_:=fun N e h1 h2 hq => ((slices_Repeat_int_int.at A0 c0 c N w hA h1 h2 hq).mono (fun e w' ⟨he,hg,hb⟩ => (⟨_,he,Repeat.own w' w.heap.size N w.heap.size c (Nat.le_refl _) hg h2,hb⟩:∃ v0_:Value,e = Ending.returned v0_∧Kd.R (Kd.int .i64) 3 w' w.heap.size (fun _ => True) v0_ (List.replicate N c)∧Below w.heap.size w w')))
   rcases h2 with rfl | rfl | rfl
   ·exact go 1 rfl (by omega) (by omega) (by decide +kernel)
   ·exact go 3 rfl (by omega) (by omega) (by decide +kernel)
   ·exact go 4 rfl (by omega) (by omega) (by decide +kernel)
  ·rw [if_neg h2] at h;cases h
 ·rw [if_neg h1] at h;cases h
def schema_ints.f (a0:Int) (a1:Int):Option (List Int):=(slices_Repeat_int_int.f (([a1]:List Int)) a0).bind fun t259 => (some t259)
theorem schema_ints.calls (a0:Int) (a1:Int) (r:List Int) (w:World) (h:schema_ints.f a0 a1 = some r) :
  Calls Tryd.prog 71 #[.int .i64 a0,.int .i64 a1] w fun e w' => ∃ v0_:Value,e = .returned (v0_)∧Kd.R (Kd.int .i64) 3 w' w.heap.size (fun _ => True) v0_ r∧Below w.heap.size w w':=by
 have HB:=AM (Below.refl w.heap.size w);have H:((slices_Repeat_int_int.f (([a1]:List Int)) a0).bind fun t259 => (some t259)) = some r:=h;clear h;obtain ⟨y256,hy256⟩:∃ y_:List Int,y_ = (([a1]:List Int)):=⟨_,rfl⟩;replace H:((slices_Repeat_int_int.f y256 a0).bind fun t259 => (some t259)) = some r:=QH hy256 H
 have Ny256:=AM hy256;clear hy256;replace H:=Option.bind_eq_some_iff.mp H;obtain ⟨t259,A30,H⟩:=H;replace H:(some t259) = some r:=H;have A3:=AM A30;clear A30;obtain rfl:=Option.some.inj H;go_enter Tryd.func71,Tryd.ntmps71;go_wp2_with (first | ((with_reducible refine gate_dst (N:=6) rfl ?_);refine Kd.R_lit (Kd.int .i64) _ 3 ?hg (N:=6) ?hd (xs:=([a1]:List Int)) (inner:=[.int .i64 a1]) (ok:=fun _ => True) (okp:=fun _ => True) ?hr ?hp (fun _ hk => hk) trivial (Below.refl _ _) (Nat.le_refl _) (by simp) ?_;(case hd => rfl);(case hg => rfl);(case hr => first | (go_simp;done) | (go_simp;rfl));(case hp => exact (Reps.one (show Kd.M (Kd.int .i64) _ _ _ a1 [.int .i64 a1] from rfl) (Reps.none _ _)));intro v257 w4 ho5 hb hg_ hnew_;clear hg_ hnew_;(first | rw [← Ny256.out] at ho5 | (simp only [Int.reduceToNat] at ho5;rw [← Ny256.out] at ho5));have HO258:=AM (Kd.R_lower ho5 (below_size (BB HB)));replace HB:=BS HB hb;clear hb ho5;obtain ⟨Ao6,co6,eo6⟩:=Kd.R_slice HO258.out;subst eo6) | ((with_reducible refine gate_callee (f:=88) rfl ?_);refine goesM_ (some 8) rfl rfl Tryd.func88 #[.slice Ao6 y256.length co6,.int .i64 a0] rfl ?_;(with_reducible refine (slices_Repeat_int_int.calls _ _ y256 a0 t259 _ ?side1 ?side2 A3.out).mono ?_);(case side1 => exact CR HO258);(case side2 => exact (Kd.R_reads' HO258.out).2.1);rintro e w7 ⟨v260,rfl,ho0,hb⟩;refine ⟨_,rfl,?_⟩;have HO261:=AM (Kd.R_lower (Kd.R_new' ho0 (Kd.R_lt (RL HO258))) (below_size (BB HB)));replace HO258:=AM (Kd.R_elder' (RL HO258) (Kd.R_base ho0) hb);replace HB:=BS HB hb;(try clear hb);(try clear hb2);(try clear hk);(try clear hi);(try clear ho0)))
 go_ret;exact ⟨_,by first | rfl | (simp [errW_none,errW_some] <;> rfl) | (simp [*,errW_none,errW_some] <;> rfl),by (with_reducible repeat (first | apply Kd.R_alloc | apply Kd.R_drewN | apply Kd.R_drew));exact Kd.R_mono HO261.out (fun _ hk => trivial),BB HB⟩
def schema_Old.f (a0:Int):Option (List Int × Int × Int × Int × Bool):=(schema_ints.f 4 2).bind fun t263 => ((schema_ints.f 1 3).bind fun t266 => ((schema_ints.f 1 3).bind fun t269 => ((schema_ints.f 1 4).bind fun t272 => ((schema_find.f (([(⟨([]:List Int),0,0,0⟩:S57),(⟨([]:List Int),0,0,(-1)⟩:S57),(⟨t263,0,1,1⟩:S57),(⟨t266,1,0,0⟩:S57),(⟨t269,1,0,0⟩:S57),(⟨([]:List Int),1,0,0⟩:S57),(⟨t272,0,0,0⟩:S57)]:List (S57))) a0).bind fun bt278 => (some (bt278.1,bt278.2.1,bt278.2.2.1,bt278.2.2.2.1,bt278.2.2.2.2))))))
theorem schema_Old.calls (a0:Int) (r1:List Int) (r2:Int) (r3:Int) (r4:Int) (r5:Bool) (w:World) (h:schema_Old.f a0 = some (r1,r2,r3,r4,r5)) :
  Calls Tryd.prog 57 #[.int .i64 a0] w fun e w' => ∃ v0_:Value,e = .returned (.tuple #[.agg #[v0_,.int .i64 r2,.int .i64 r3,.int .i64 r4],.bool r5])∧Kd.V (Kd.int .i64) 3 w' w.heap.size (fun k_ => (w.heap.size≤k_)) v0_ r1∧Below w.heap.size w w':=by
 have hu57:=Tryd.underlying57;have HB:=AM (Below.refl w.heap.size w);have H:((schema_ints.f 4 2).bind fun t263 => ((schema_ints.f 1 3).bind fun t266 => ((schema_ints.f 1 3).bind fun t269 => ((schema_ints.f 1 4).bind fun t272 => ((schema_find.f (([(⟨([]:List Int),0,0,0⟩:S57),(⟨([]:List Int),0,0,(-1)⟩:S57),(⟨t263,0,1,1⟩:S57),(⟨t266,1,0,0⟩:S57),(⟨t269,1,0,0⟩:S57),(⟨([]:List Int),1,0,0⟩:S57),(⟨t272,0,0,0⟩:S57)]:List (S57))) a0).bind fun bt278 => (some (bt278.1,bt278.2.1,bt278.2.2.1,bt278.2.2.2.1,bt278.2.2.2.2))))))) = some (r1,r2,r3,r4,r5):=h;clear h;replace H:=Option.bind_eq_some_iff.mp H;obtain ⟨t263,A20,H⟩:=H;replace H:((schema_ints.f 1 3).bind fun t266 => ((schema_ints.f 1 3).bind fun t269 => ((schema_ints.f 1 4).bind fun t272 => ((schema_find.f (([(⟨([]:List Int),0,0,0⟩:S57),(⟨([]:List Int),0,0,(-1)⟩:S57),(⟨t263,0,1,1⟩:S57),(⟨t266,1,0,0⟩:S57),(⟨t269,1,0,0⟩:S57),(⟨([]:List Int),1,0,0⟩:S57),(⟨t272,0,0,0⟩:S57)]:List (S57))) a0).bind fun bt278 => (some (bt278.1,bt278.2.1,bt278.2.2.1,bt278.2.2.2.1,bt278.2.2.2.2)))))) = some (r1,r2,r3,r4,r5):=H;have A2:=AM A20;clear A20;replace H:=Option.bind_eq_some_iff.mp H;obtain ⟨t266,A30,H⟩:=H;replace H:((schema_ints.f 1 3).bind fun t269 => ((schema_ints.f 1 4).bind fun t272 => ((schema_find.f (([(⟨([]:List Int),0,0,0⟩:S57),(⟨([]:List Int),0,0,(-1)⟩:S57),(⟨t263,0,1,1⟩:S57),(⟨t266,1,0,0⟩:S57),(⟨t269,1,0,0⟩:S57),(⟨([]:List Int),1,0,0⟩:S57),(⟨t272,0,0,0⟩:S57)]:List (S57))) a0).bind fun bt278 => (some (bt278.1,bt278.2.1,bt278.2.2.1,bt278.2.2.2.1,bt278.2.2.2.2))))) = some (r1,r2,r3,r4,r5):=H;have A3:=AM A30;clear A30;replace H:=Option.bind_eq_some_iff.mp H;obtain ⟨t269,A40,H⟩:=H;replace H:((schema_ints.f 1 4).bind fun t272 => ((schema_find.f (([(⟨([]:List Int),0,0,0⟩:S57),(⟨([]:List Int),0,0,(-1)⟩:S57),(⟨t263,0,1,1⟩:S57),(⟨t266,1,0,0⟩:S57),(⟨t269,1,0,0⟩:S57),(⟨([]:List Int),1,0,0⟩:S57),(⟨t272,0,0,0⟩:S57)]:List (S57))) a0).bind fun bt278 => (some (bt278.1,bt278.2.1,bt278.2.2.1,bt278.2.2.2.1,bt278.2.2.2.2)))) = some (r1,r2,r3,r4,r5):=H;have A4:=AM A40;clear A40;replace H:=Option.bind_eq_some_iff.mp H;obtain ⟨t272,A50,H⟩:=H;replace H:((schema_find.f (([(⟨([]:List Int),0,0,0⟩:S57),(⟨([]:List Int),0,0,(-1)⟩:S57),(⟨t263,0,1,1⟩:S57),(⟨t266,1,0,0⟩:S57),(⟨t269,1,0,0⟩:S57),(⟨([]:List Int),1,0,0⟩:S57),(⟨t272,0,0,0⟩:S57)]:List (S57))) a0).bind fun bt278 => (some (bt278.1,bt278.2.1,bt278.2.2.1,bt278.2.2.2.1,bt278.2.2.2.2))) = some (r1,r2,r3,r4,r5):=H;have A5:=AM A50;clear A50;obtain ⟨y275,hy275⟩:∃ y_:List (S57),y_ = (([(⟨([]:List Int),0,0,0⟩:S57),(⟨([]:List Int),0,0,(-1)⟩:S57),(⟨t263,0,1,1⟩:S57),(⟨t266,1,0,0⟩:S57),(⟨t269,1,0,0⟩:S57),(⟨([]:List Int),1,0,0⟩:S57),(⟨t272,0,0,0⟩:S57)]:List (S57))):=⟨_,rfl⟩;replace H:((schema_find.f y275 a0).bind fun bt278 => (some (bt278.1,bt278.2.1,bt278.2.2.1,bt278.2.2.2.1,bt278.2.2.2.2))) = some (r1,r2,r3,r4,r5):=QH hy275 H
 have Ny275:=AM hy275;clear hy275;replace H:=Option.bind_eq_some_iff.mp H;obtain ⟨⟨t278,t281,t282,t283,t284⟩,A60,H⟩:=H;replace H:(some (t278,t281,t282,t283,t284)) = some (r1,r2,r3,r4,r5):=H;have A6:=AM A60;clear A60;simp only [Option.some.injEq,Prod.mk.injEq] at H;obtain ⟨rfl,rfl,rfl,rfl,rfl⟩:=H;go_enter Tryd.func57,Tryd.ntmps57;go_wp2_with (first | ((with_reducible refine gate_dst (N:=2) rfl ?_);refine boxE 2 #[.slice none 0 0,.int .i64 0,.int .i64 0,.int .i64 0] 57 ?_;intro gb262 hg w7 hbox hb;have BK262:=AM (hbox);have GW262:=GW HB hg;have GE262:=GW HB hg;replace HB:=BS HB hb;clear hb hbox hg) | ((with_reducible refine gate_callee (f:=71) rfl ?_);refine goesM_ (some 5) rfl rfl Tryd.func71 #[.int .i64 4,.int .i64 2] rfl ?_;(with_reducible refine (schema_ints.calls 4 2 t263 _ A2.out).mono ?_);rintro e w8 ⟨v264,rfl,ho0,hb⟩;refine ⟨_,rfl,?_⟩;have HO265:=AM (Kd.R_lower (Kd.R_newM (M:=fun k_ => (w.heap.size≤k_)) ho0 (below_size (BB HB)) (fun k_ h_ => h_)) (below_size (BB HB)));replace BK262:=BE BK262 hb;replace HB:=BS HB hb;(try clear hb);(try clear hb2);(try clear hk);(try clear hi);(try clear ho0);obtain ⟨Ao9,co9,eo9⟩:=Kd.R_slice HO265.out;subst eo9) | ((with_reducible refine gate_callee (f:=71) rfl ?_);refine goesM_ (some 7) rfl rfl Tryd.func71 #[.int .i64 1,.int .i64 3] rfl ?_;(with_reducible refine (schema_ints.calls 1 3 t266 _ A3.out).mono ?_);rintro e w10 ⟨v267,rfl,ho0,hb⟩;refine ⟨_,rfl,?_⟩;have HO268:=AM (Kd.R_lower (Kd.R_new' (Kd.R_newM (M:=fun k_ => (w.heap.size≤k_)) ho0 (below_size (BB HB)) (fun k_ h_ => h_)) (Kd.R_lt (RL HO265))) (below_size (BB HB)));replace HO265:=AM (Kd.R_elder' (RL HO265) (Kd.R_base ho0) hb);replace BK262:=BE BK262 hb;replace HB:=BS HB hb;(try clear hb);(try clear hb2);(try clear hk);(try clear hi);(try clear ho0);obtain ⟨Ao11,co11,eo11⟩:=Kd.R_slice HO268.out;subst eo11) | ((with_reducible refine gate_callee (f:=71) rfl ?_);refine goesM_ (some 9) rfl rfl Tryd.func71 #[.int .i64 1,.int .i64 3] rfl ?_;(with_reducible refine (schema_ints.calls 1 3 t269 _ A4.out).mono ?_);rintro e w12 ⟨v270,rfl,ho0,hb⟩;refine ⟨_,rfl,?_⟩;have HO271:=AM (Kd.R_lower (Kd.R_new' (Kd.R_new' (Kd.R_newM (M:=fun k_ => (w.heap.size≤k_)) ho0 (below_size (BB HB)) (fun k_ h_ => h_)) (Kd.R_lt (RL HO265))) (Kd.R_lt (RL HO268))) (below_size (BB HB)));replace HO265:=AM (Kd.R_elder' (RL HO265) (Kd.R_base ho0) hb);replace HO268:=AM (Kd.R_elder' (RL HO268) (Kd.R_base ho0) hb);replace BK262:=BE BK262 hb;replace HB:=BS HB hb;(try clear hb);(try clear hb2);(try clear hk);(try clear hi);(try clear ho0);obtain ⟨Ao13,co13,eo13⟩:=Kd.R_slice HO271.out;subst eo13) | ((with_reducible refine gate_callee (f:=71) rfl ?_);refine goesM_ (some 12) rfl rfl Tryd.func71 #[.int .i64 1,.int .i64 4] rfl ?_;(with_reducible refine (schema_ints.calls 1 4 t272 _ A5.out).mono ?_);rintro e w14 ⟨v273,rfl,ho0,hb⟩;refine ⟨_,rfl,?_⟩;have HO274:=AM (Kd.R_lower (Kd.R_new' (Kd.R_new' (Kd.R_new' (Kd.R_newM (M:=fun k_ => (w.heap.size≤k_)) ho0 (below_size (BB HB)) (fun k_ h_ => h_)) (Kd.R_lt (RL HO265))) (Kd.R_lt (RL HO268))) (Kd.R_lt (RL HO271))) (below_size (BB HB)));replace HO265:=AM (Kd.R_elder' (RL HO265) (Kd.R_base ho0) hb);replace HO268:=AM (Kd.R_elder' (RL HO268) (Kd.R_base ho0) hb);replace HO271:=AM (Kd.R_elder' (RL HO271) (Kd.R_base ho0) hb);replace BK262:=BE BK262 hb;replace HB:=BS HB hb;(try clear hb);(try clear hb2);(try clear hk);(try clear hi);(try clear ho0);obtain ⟨Ao15,co15,eo15⟩:=Kd.R_slice HO274.out;subst eo15) | ((with_reducible refine gate_dst (N:=14) rfl ?_);refine Kd.N_lit k57 _ 57 ?hg (N':=14) ?hd (xs:=([(⟨([]:List Int),0,0,0⟩:S57),(⟨([]:List Int),0,0,(-1)⟩:S57),(⟨t263,0,1,1⟩:S57),(⟨t266,1,0,0⟩:S57),(⟨t269,1,0,0⟩:S57),(⟨([]:List Int),1,0,0⟩:S57),(⟨t272,0,0,0⟩:S57)]:List (S57))) (inner:=[.slice none 0 0,.int .i64 0,.int .i64 0,.int .i64 0,.slice none 0 0,.int .i64 0,.int .i64 0,.int .i64 (-1),.slice Ao9 t263.length co9,.int .i64 0,.int .i64 1,.int .i64 1,.slice Ao11 t266.length co11,.int .i64 1,.int .i64 0,.int .i64 0,.slice Ao13 t269.length co13,.int .i64 1,.int .i64 0,.int .i64 0,.slice none 0 0,.int .i64 1,.int .i64 0,.int .i64 0,.slice Ao15 t272.length co15,.int .i64 0,.int .i64 0,.int .i64 0]) (ok:=(fun k_ => (w.heap.size≤k_)∧k_≠gb262)) (okp:=(fun k_ => (w.heap.size≤k_)∧k_≠gb262)) ?hr ?hp (fun _ hk => hk) ((show ∀ k_,w14.heap.size≤k_→(fun k_ => (w.heap.size≤k_)∧k_≠gb262) k_ from fun k_ hk => ⟨(Nat.le_trans (below_size (BB HB)) hk),Kd.freshB (g:=gb262) (o:=.cells #[.slice none 0 0,.int .i64 0,.int .i64 0,.int .i64 0] 57 (0,0)) (BL BK262) k_ hk⟩) _ (Nat.le_refl _)) (Below.refl _ _) (Nat.le_refl _) (by simp) ?_;(case hd => rfl);(case hg => rfl);(case hr => first | (go_simp;done) | (go_simp;rfl));(case hp => exact (Reps.c4 (show Kd.FK k57 _ _ (⟨([]:List Int),0,0,0⟩:S57) [.slice none 0 0,.int .i64 0,.int .i64 0,.int .i64 0] from (k57_mkF _ _ (⟨([]:List Int),0,0,0⟩:S57) (Nat.le_refl _) (Kd.F_nil _ _ _))) (Reps.c4 (show Kd.FK k57 _ _ (⟨([]:List Int),0,0,(-1)⟩:S57) [.slice none 0 0,.int .i64 0,.int .i64 0,.int .i64 (-1)] from (k57_mkF _ _ (⟨([]:List Int),0,0,(-1)⟩:S57) (Nat.le_refl _) (Kd.F_nil _ _ _))) (Reps.c4 (show Kd.FK k57 _ _ (⟨t263,0,1,1⟩:S57) [.slice Ao9 t263.length co9,.int .i64 0,.int .i64 1,.int .i64 1] from (k57_mkF _ _ (⟨t263,0,1,1⟩:S57) (Kd.R_reads' (Kd.R_mono (ok':=(fun k_ => (w.heap.size≤k_)∧k_≠gb262)) (Kd.R_types (HO265.out) BK262.out (by decide)) (fun k_ hk => ⟨hk.1.1.1.1.1,hk.2⟩))).2.1 (Kd.R_F (Kd.R_mono (ok':=(fun k_ => (w.heap.size≤k_)∧k_≠gb262)) (Kd.R_types (HO265.out) BK262.out (by decide)) (fun k_ hk => ⟨hk.1.1.1.1.1,hk.2⟩))))) (Reps.c4 (show Kd.FK k57 _ _ (⟨t266,1,0,0⟩:S57) [.slice Ao11 t266.length co11,.int .i64 1,.int .i64 0,.int .i64 0] from (k57_mkF _ _ (⟨t266,1,0,0⟩:S57) (Kd.R_reads' (Kd.R_mono (ok':=(fun k_ => (w.heap.size≤k_)∧k_≠gb262)) (Kd.R_types (HO268.out) BK262.out (by decide)) (fun k_ hk => ⟨hk.1.1.1.1.1,hk.2⟩))).2.1 (Kd.R_F (Kd.R_mono (ok':=(fun k_ => (w.heap.size≤k_)∧k_≠gb262)) (Kd.R_types (HO268.out) BK262.out (by decide)) (fun k_ hk => ⟨hk.1.1.1.1.1,hk.2⟩))))) (Reps.c4 (show Kd.FK k57 _ _ (⟨t269,1,0,0⟩:S57) [.slice Ao13 t269.length co13,.int .i64 1,.int .i64 0,.int .i64 0] from (k57_mkF _ _ (⟨t269,1,0,0⟩:S57) (Kd.R_reads' (Kd.R_mono (ok':=(fun k_ => (w.heap.size≤k_)∧k_≠gb262)) (Kd.R_types (HO271.out) BK262.out (by decide)) (fun k_ hk => ⟨hk.1.1.1.1.1,hk.2⟩))).2.1 (Kd.R_F (Kd.R_mono (ok':=(fun k_ => (w.heap.size≤k_)∧k_≠gb262)) (Kd.R_types (HO271.out) BK262.out (by decide)) (fun k_ hk => ⟨hk.1.1.1.1.1,hk.2⟩))))) (Reps.c4 (show Kd.FK k57 _ _ (⟨([]:List Int),1,0,0⟩:S57) [.slice none 0 0,.int .i64 1,.int .i64 0,.int .i64 0] from (k57_mkF _ _ (⟨([]:List Int),1,0,0⟩:S57) (Nat.le_refl _) (Kd.F_nil _ _ _))) (Reps.c4 (show Kd.FK k57 _ _ (⟨t272,0,0,0⟩:S57) [.slice Ao15 t272.length co15,.int .i64 0,.int .i64 0,.int .i64 0] from (k57_mkF _ _ (⟨t272,0,0,0⟩:S57) (Kd.R_reads' (Kd.R_mono (ok':=(fun k_ => (w.heap.size≤k_)∧k_≠gb262)) (Kd.R_types (HO274.out) BK262.out (by decide)) (fun k_ hk => ⟨hk.1.1.1.1.1,hk.2⟩))).2.1 (Kd.R_F (Kd.R_mono (ok':=(fun k_ => (w.heap.size≤k_)∧k_≠gb262)) (Kd.R_types (HO274.out) BK262.out (by decide)) (fun k_ hk => ⟨hk.1.1.1.1.1,hk.2⟩))))) (Reps.none _ _)))))))));intro v276 w16 ho17 hb hg_ hnew_;clear hg_ hnew_;(first | rw [← Ny275.out] at ho17 | (simp only [Int.reduceToNat] at ho17;rw [← Ny275.out] at ho17));have HO277:=AM (Kd.N_lower ho17 (below_size (BB HB)));replace BK262:=BE BK262 hb;replace HB:=BS HB hb;clear HO265;clear HO268;clear HO271;clear HO274;clear hb ho17;obtain ⟨Ao18,co18,eo18⟩:=Kd.N_slice HO277.out;subst eo18) | ((with_reducible refine gate_callee (f:=70) rfl ?_);refine goesM_ (some 16) rfl rfl Tryd.func70 #[.slice Ao18 y275.length co18,.int .i64 a0] rfl ?_;(with_reducible refine (schema_find.calls (fun k_ => ((w.heap.size≤k_)∧k_≠gb262)) _ _ y275 a0 t278 t281 t282 t283 t284 _ ?side1 A6.out).mono ?_);(case side1 => exact Kd.N_V (HO277.out));rintro e w19 ⟨v279,rfl,ho0,hb⟩;refine ⟨_,rfl,?_⟩;replace HO277:=AM (Kd.N_below (by (with_reducible repeat (first | apply Kd.N_alloc | apply Kd.N_drewN | apply Kd.N_drew));exact HO277.out) hb);have HO280:=AM (Kd.V_lower (Kd.V_mono (ok':=fun k_ => (w.heap.size≤k_)∧k_≠gb262) ho0 (fun k_ hk_ => ⟨Or.elim hk_ (fun hs_ => hs_.1) (fun hn_ => (Nat.le_trans (below_size (BB HB)) hn_)),Or.elim hk_ (fun hs_ => hs_.2) (fun hn_ => (Kd.freshB (g:=gb262) (o:=.cells #[.slice none 0 0,.int .i64 0,.int .i64 0,.int .i64 0] 57 (0,0)) (BL BK262) k_ hn_))⟩)) (below_size (BB HB)));replace BK262:=BE BK262 hb;replace HB:=BS HB hb;(try clear hb);(try clear hb2);(try clear hk);(try clear hi);(try clear ho0);obtain ⟨Ao20,co20,eo20⟩:=Kd.V_slice HO280.out;subst eo20;have hcz21_0:=BC BK262 0 (.slice none 0 0) rfl;have hcz21_1:=BC BK262 1 (.int .i64 0) rfl;have hcz21_2:=BC BK262 2 (.int .i64 0) rfl;have hcz21_3:=BC BK262 3 (.int .i64 0) rfl;have hfz21_0:=BF BK262 0;have hfz21_1:=BF BK262 1;have hfz21_2:=BF BK262 2;have hfz21_3:=BF BK262 3))
 refine bodyPost_ret (results_ct rfl _ _ gb262 57 #[.slice Ao20 t278.length co20,.int .i64 t281,.int .i64 t282,.int .i64 t283] (0,0) _ rfl (by refine blk_put (cs:=#[.slice Ao20 t278.length co20,.int .i64 t281,.int .i64 t282,.int .i64 0]) ?_ 3 _ rfl;refine blk_put (cs:=#[.slice Ao20 t278.length co20,.int .i64 t281,.int .i64 0,.int .i64 0]) ?_ 2 _ rfl;refine blk_put (cs:=#[.slice Ao20 t278.length co20,.int .i64 0,.int .i64 0,.int .i64 0]) ?_ 1 _ rfl;refine blk_put (cs:=#[.slice none 0 0,.int .i64 0,.int .i64 0,.int .i64 0]) ?_ 0 _ rfl;exact BL BK262) Tryd.underlying57 rfl (by kernel_rfl)) rfl ?_;exact ⟨_,by first | rfl | (simp [errW_none,errW_some] <;> rfl) | (simp [*,errW_none,errW_some] <;> rfl),by (with_reducible repeat (first | apply Kd.V_alloc | apply Kd.V_drewN | apply Kd.V_drew));exact Kd.V_mono (Kd.V_far (p:=⟨gb262,3,none⟩) (Kd.V_far (p:=⟨gb262,2,none⟩) (Kd.V_far (p:=⟨gb262,1,none⟩) (Kd.V_far (p:=⟨gb262,0,none⟩) (Kd.V_mono HO280.out (fun k_ hk => (⟨hk,hk.2⟩:_∧k_≠gb262))) (fun _ hk => hk.2) (.slice Ao20 t278.length co20)) (fun _ hk => hk.2) (.int .i64 t281)) (fun _ hk => hk.2) (.int .i64 t282)) (fun _ hk => hk.2) (.int .i64 t283)) (fun _ hk => hk.1.1),BB HB⟩
def schema_In.f (a0:Int) (a1:Int):Option (Bool):=if a0 = 1 then (some true) else (if a0 = 2 then (if a1 ≥ (-140737488355328) then (some (decide (a1≤140737488355328))) else (some false)) else (if a0 = 3 then (if a1 ≥ 0 then (some (decide (a1≤140737488355328))) else (some false)) else (if a0 = 4 then (if a1 ≥ 0 then (some (decide (a1≤255))) else (some false)) else (if a0 = 5 then (if a1 = 0 then (some true) else (some (a1 == 1))) else (some false)))))
theorem schema_In.calls (a0:Int) (a1:Int) (r:Bool) (w:World) (h:schema_In.f a0 a1 = some r) :
  Calls Tryd.prog 89 #[.int .i64 a0,.int .i64 a1] w fun e w' => e = .returned (.bool r)∧Drawn0 w w':=by
 have H:(if a0 = 1 then (some true) else (if a0 = 2 then (if a1 ≥ (-140737488355328) then (some (decide (a1≤140737488355328))) else (some false)) else (if a0 = 3 then (if a1 ≥ 0 then (some (decide (a1≤140737488355328))) else (some false)) else (if a0 = 4 then (if a1 ≥ 0 then (some (decide (a1≤255))) else (some false)) else (if a0 = 5 then (if a1 = 0 then (some true) else (some (a1 == 1))) else (some false)))))) = some r:=h;clear h;by_cases c3:a0 = 1
 ·rw [if_pos c3] at H;have c3b0:(a0 == 1) = true:=beq_iff_eq.mpr c3;have c3b1:(a0 != 1) = false:=bne_eq_false_iff_eq.mpr c3;clear c3;obtain rfl:=Option.some.inj H;go_enter Tryd.func89,Tryd.ntmps89;go_wp2
  go_ret;exact ⟨QD,DZ⟩
 ·rw [if_neg c3] at H;have c3b0:(a0 == 1) = false:=beq_eq_false_iff_ne.mpr c3;have c3b1:(a0 != 1) = true:=bne_iff_ne.mpr c3;by_cases c4:a0 = 2
  ·rw [if_pos c4] at H;have c4b0:(a0 == 2) = true:=beq_iff_eq.mpr c4;have c4b1:(a0 != 2) = false:=bne_eq_false_iff_eq.mpr c4;clear c4;by_cases c5:a1 ≥ (-140737488355328)
   ·rw [if_pos c5] at H;have c5b0:decide ((-140737488355328)≤a1) = true:=decide_eq_true c5;clear c5;obtain rfl:=Option.some.inj H;go_enter Tryd.func89,Tryd.ntmps89;go_wp2
    go_ret;exact ⟨QD,DZ⟩
   ·rw [if_neg c5] at H;have c5b0:decide ((-140737488355328)≤a1) = false:=decide_eq_false c5;clear c5;obtain rfl:=Option.some.inj H;go_enter Tryd.func89,Tryd.ntmps89;go_wp2
    go_ret;exact ⟨QD,DZ⟩
  ·rw [if_neg c4] at H;have c4b0:(a0 == 2) = false:=beq_eq_false_iff_ne.mpr c4;have c4b1:(a0 != 2) = true:=bne_iff_ne.mpr c4;by_cases c6:a0 = 3
   ·rw [if_pos c6] at H;have c6b0:(a0 == 3) = true:=beq_iff_eq.mpr c6;have c6b1:(a0 != 3) = false:=bne_eq_false_iff_eq.mpr c6;clear c6;by_cases c7:a1 ≥ 0
    ·rw [if_pos c7] at H;have c7b0:decide (0≤a1) = true:=decide_eq_true c7;clear c7;obtain rfl:=Option.some.inj H;go_enter Tryd.func89,Tryd.ntmps89;go_wp2
     go_ret;exact ⟨QD,DZ⟩
    ·rw [if_neg c7] at H;have c7b0:decide (0≤a1) = false:=decide_eq_false c7;clear c7;obtain rfl:=Option.some.inj H;go_enter Tryd.func89,Tryd.ntmps89;go_wp2
     go_ret;exact ⟨QD,DZ⟩
   ·rw [if_neg c6] at H;have c6b0:(a0 == 3) = false:=beq_eq_false_iff_ne.mpr c6;have c6b1:(a0 != 3) = true:=bne_iff_ne.mpr c6;by_cases c8:a0 = 4
    ·rw [if_pos c8] at H;have c8b0:(a0 == 4) = true:=beq_iff_eq.mpr c8;have c8b1:(a0 != 4) = false:=bne_eq_false_iff_eq.mpr c8;clear c8;by_cases c9:a1 ≥ 0
     ·rw [if_pos c9] at H;have c9b0:decide (0≤a1) = true:=decide_eq_true c9;clear c9;obtain rfl:=Option.some.inj H;go_enter Tryd.func89,Tryd.ntmps89;go_wp2
      go_ret;exact ⟨QD,DZ⟩
     ·rw [if_neg c9] at H;have c9b0:decide (0≤a1) = false:=decide_eq_false c9;clear c9;obtain rfl:=Option.some.inj H;go_enter Tryd.func89,Tryd.ntmps89;go_wp2
      go_ret;exact ⟨QD,DZ⟩
    ·rw [if_neg c8] at H;have c8b0:(a0 == 4) = false:=beq_eq_false_iff_ne.mpr c8;have c8b1:(a0 != 4) = true:=bne_iff_ne.mpr c8;by_cases c10:a0 = 5
     ·rw [if_pos c10] at H;have c10b0:(a0 == 5) = true:=beq_iff_eq.mpr c10;have c10b1:(a0 != 5) = false:=bne_eq_false_iff_eq.mpr c10;clear c10;by_cases c11:a1 = 0
      ·rw [if_pos c11] at H;have c11b0:(a1 == 0) = true:=beq_iff_eq.mpr c11;have c11b1:(a1 != 0) = false:=bne_eq_false_iff_eq.mpr c11;clear c11;obtain rfl:=Option.some.inj H;go_enter Tryd.func89,Tryd.ntmps89;go_wp2
       go_ret;exact ⟨QD,DZ⟩
      ·rw [if_neg c11] at H;have c11b0:(a1 == 0) = false:=beq_eq_false_iff_ne.mpr c11;have c11b1:(a1 != 0) = true:=bne_iff_ne.mpr c11;obtain rfl:=Option.some.inj H;go_enter Tryd.func89,Tryd.ntmps89;go_wp2
       go_ret;exact ⟨QD,DZ⟩
     ·rw [if_neg c10] at H;have c10b0:(a0 == 5) = false:=beq_eq_false_iff_ne.mpr c10;have c10b1:(a0 != 5) = true:=bne_iff_ne.mpr c10;obtain rfl:=Option.some.inj H;go_enter Tryd.func89,Tryd.ntmps89;go_wp2
      go_ret;exact ⟨QD,DZ⟩
def field_numbers.l0:Nat→List Int→List Int→Int→Int→Option (Bool)
 | 0,_,_,_,_ => none
 | k+1,x1,x12,x13,x14 => if x14 < x13 then (if 0≤x14 then (if x14 < (x12.length:Int) then (if x14 < (x1.length:Int) then ((schema_In.f (rd x1 x14) (rd x12 x14)).bind fun t287 => (if t287 = true then (field_numbers.l0 k x1 x12 x13 (wrap64 (x14+1))) else (some false))) else (none)) else (none)) else (none)) else (some true)
def field_numbers.f (k:Nat) (l0:List Int) (l1:List Int):Option (Bool):=if (l0.length:Int) = (l1.length:Int) then (field_numbers.l0 k l1 l0 (l0.length:Int) 0) else (some false)
theorem field_numbers.calls (k:Nat) (A0:Option Addr) (c0:Nat) (l0:List Int) (A1:Option Addr) (c1:Nat) (l1:List Int) (r:Bool) (w:World) (hr0:Kd.C (Kd.int .i64) w A0 l0.length l0) (hc0:l0.length≤c0) (hr1:Kd.C (Kd.int .i64) w A1 l1.length l1) (hc1:l1.length≤c1) (h:field_numbers.f k l0 l1 = some r) :
  Calls Tryd.prog 72 #[.slice A0 l0.length c0,.slice A1 l1.length c1] w fun e w' => e = .returned (.bool r)∧Drawn0 w w':=by
 have HR0:=AM hr0;have HC0:=AM hc0;clear hr0 hc0;have HR1:=AM hr1;have HC1:=AM hc1;clear hr1 hc1;have H:(if (l0.length:Int) = (l1.length:Int) then (field_numbers.l0 k l1 l0 (l0.length:Int) 0) else (some false)) = some r:=h;clear h;by_cases c3:(l0.length:Int) = (l1.length:Int)
 ·rw [if_pos c3] at H;have c3b0:((l0.length:Int) == (l1.length:Int)) = true:=beq_iff_eq.mpr c3;have c3b1:((l0.length:Int) != (l1.length:Int)) = false:=bne_eq_false_iff_eq.mpr c3;have c3b2:(l0.length == l1.length) = true:=by first | simpa using c3 | (simp at c3 ⊢;omega)
  clear c3;have H':=AM H;clear H;go_enter Tryd.func72,Tryd.ntmps72;go_wp2
  go_loopg [14] k (fun kq v14 w' => ∃ (x14_1:Int),v14 = .int .i64 x14_1∧Aside0 (field_numbers.l0 kq l1 l0 (l0.length:Int) x14_1 = some r)∧Aside0 (kq≤k)∧Drawn0 w w')
  case atStart => exact ⟨(0),QD,H',⟨Nat.le_refl _⟩,DZ⟩
  case round =>
   clear H';try clear c1
   try clear p2
   try clear c3
   try clear c3b0
   try clear c3b1
   try clear c3b2
   obtain ⟨x14_1,rfl,HA,HK1,⟨m1,rfl⟩⟩:=hrel;cases gk with
   | zero => exact absurd HA.out (by simp [field_numbers.l0])
   | succ k1 =>
    have H:=HA.out;clear HA;simp only [field_numbers.l0] at H;by_cases c4:x14_1 < (l0.length:Int)
    ·rw [if_pos c4] at H;have c4b0:decide (x14_1 < (l0.length:Int)) = true:=decide_eq_true c4;clear c4;by_cases c5:0≤x14_1
     ·rw [if_pos c5] at H;have c5b0:decide (0≤x14_1) = true:=decide_eq_true c5;clear c5;by_cases c6:x14_1 < (l0.length:Int)
      ·rw [if_pos c6] at H;have c6b0:decide (x14_1 < (l0.length:Int)) = true:=decide_eq_true c6;clear c6;by_cases c7:x14_1 < (l1.length:Int)
       ·rw [if_pos c7] at H;have c7b0:decide (x14_1 < (l1.length:Int)) = true:=decide_eq_true c7;clear c7;replace H:=Option.bind_eq_some_iff.mp H;obtain ⟨t287,A80,H⟩:=H;replace H:(if t287 = true then (field_numbers.l0 k1 l1 l0 (l0.length:Int) (wrap64 (x14_1+1))) else (some false)) = some r:=H;have A8:=AM A80;clear A80;by_cases c9:t287 = true
        ·subst c9;have H1:(field_numbers.l0 k1 l1 l0 (l0.length:Int) (wrap64 (x14_1+1))) = some r:=by rw [if_pos rfl] at H;exact H
         clear H;have H:=H1;clear H1;have H':=AM H;clear H;have p285:0≤(x14_1:Int):=OD;have q285:x14_1 < (l0.length:Int):=OD;obtain ⟨ad285,e285,hx285_0⟩:=Kd.at_int HR0.out x14_1 p285 q285;cases e285
         replace p285:=eq_true p285;replace q285:=eq_true q285;have p286:0≤(x14_1:Int):=OD;have q286:x14_1 < (l1.length:Int):=OD;obtain ⟨ad286,e286,hx286_0⟩:=Kd.at_int HR1.out x14_1 p286 q286;cases e286
         replace p286:=eq_true p286;replace q286:=eq_true q286;go_wp2_with (first | ((with_reducible refine gate_callee (f:=89) rfl ?_);refine goesM_ (some 24) rfl rfl Tryd.func89 #[.int .i64 (rd l1 x14_1),.int .i64 (rd l0 x14_1)] rfl ?_;(with_reducible refine (schema_In.calls (rd l1 x14_1) (rd l0 x14_1) true _ A8.out).mono ?_);rintro e w' ⟨rfl,⟨nd,rfl⟩⟩;refine ⟨_,rfl,?_⟩))
         go_roundg k1
         case measure => have:=HK1.out;omega
         case rel => exact ⟨(wrap64 (x14_1+1)),QD,H',⟨by have:=HK1.out;omega⟩,DZ⟩
        ·replace c9:=Bool.eq_false_iff.mpr c9;subst c9;have H1:(some false) = some r:=by rw [if_neg (show ¬ (false = true) by decide)] at H;exact H
         clear H;have H:=H1;clear H1;obtain rfl:=Option.some.inj H;have p285:0≤(x14_1:Int):=OD;have q285:x14_1 < (l0.length:Int):=OD;obtain ⟨ad285,e285,hx285_0⟩:=Kd.at_int HR0.out x14_1 p285 q285;cases e285
         replace p285:=eq_true p285;replace q285:=eq_true q285;have p286:0≤(x14_1:Int):=OD;have q286:x14_1 < (l1.length:Int):=OD;obtain ⟨ad286,e286,hx286_0⟩:=Kd.at_int HR1.out x14_1 p286 q286;cases e286
         replace p286:=eq_true p286;replace q286:=eq_true q286;go_wp2_with (first | ((with_reducible refine gate_callee (f:=89) rfl ?_);refine goesM_ (some 24) rfl rfl Tryd.func89 #[.int .i64 (rd l1 x14_1),.int .i64 (rd l0 x14_1)] rfl ?_;(with_reducible refine (schema_In.calls (rd l1 x14_1) (rd l0 x14_1) false _ A8.out).mono ?_);rintro e w' ⟨rfl,⟨nd,rfl⟩⟩;refine ⟨_,rfl,?_⟩))
         go_ret;exact ⟨QD,DZ⟩
       ·rw [if_neg c7] at H;exact absurd H (by simp)
      ·rw [if_neg c6] at H;exact absurd H (by simp)
     ·rw [if_neg c5] at H;exact absurd H (by simp)
    ·rw [if_neg c4] at H;have c4b0:decide (x14_1 < (l0.length:Int)) = false:=decide_eq_false c4;clear c4;obtain rfl:=Option.some.inj H;go_wp2
     go_ret;exact ⟨QD,DZ⟩
 ·rw [if_neg c3] at H;have c3b0:((l0.length:Int) == (l1.length:Int)) = false:=beq_eq_false_iff_ne.mpr c3;have c3b1:((l0.length:Int) != (l1.length:Int)) = true:=bne_iff_ne.mpr c3;have c3b2:(l0.length == l1.length) = false:=by first | simpa using c3 | (simp at c3 ⊢;omega)
  obtain rfl:=Option.some.inj H;go_enter Tryd.func72,Tryd.ntmps72;go_wp2
  go_ret;exact ⟨QD,DZ⟩
section
open Go.Lib
def badT (s:ByteArray):Bool:=decide (0≤U.first s (s.size+1) 0)
def TabsOn (w:World):Prop:=∀ w',Below w.heap.size w w'→Utf8Tabs 0 1 w'
theorem TabsOn.below {w w1:World} (h:TabsOn w) (hb:Below w.heap.size w w1):TabsOn w1:=fun w' h2 => h w' (below_step hb h2)
set_option maxRecDepth 100000 in
theorem check1_calls (s:ByteArray) (w:World) (ht:TabsOn w) (hs:s.size≤140737488351232) :
  Calls Tryd.prog 74 #[.string s] w fun e w' => e = .returned (.bool (badT s))∧Below w.heap.size w w':=by
 have HT:=Lib.hid ht;clear ht;go_enter Tryd.func74,Tryd.ntmps74;go_wp2_with (fail)
 refine (U.First_calls s w HT.out hs).mono ?_;rintro e w1 ⟨rfl,hb1⟩;have HB:=Lib.hid hb1;clear hb1;obtain ⟨z,hz⟩:∃ z,z = U.first s (s.size+1) 0:=⟨_,rfl⟩
 rw [← hz];have HZ:=Lib.hid hz;clear hz;go_wp2_with (fail)
 go_ret;exact ⟨by show Ending.returned (.bool (decide (0≤z))) = _;rw [badT,← HZ.out],HB.out⟩
def idxT:List ByteArray→Int→Int
 | [],_ => -1
 | k :: l,i => if badT k = true then i else idxT l (i+1)
theorem idxT_any:∀ (l:List ByteArray) (i:Int),0≤i→(0≤idxT l i↔l.any badT = true)
 | [],i,_ => by simp [idxT]
 | k :: l,i,hi => by
  rw [idxT,List.any_cons];by_cases hb:badT k = true
  ·rw [if_pos hb,hb];simp [hi]
  ·rw [if_neg hb,idxT_any l (i+1) (by omega)];simp [hb]
set_option maxHeartbeats 4000000 in
set_option maxRecDepth 100000 in
theorem idx_texts (A:Option Addr) (c:Nat) (l:List ByteArray) (w:World) (ht:TabsOn w) (hr:Kd.C Kd.string w A l.length l) (hl:l.length≤8796093022208) (hs:∀ s ∈ l,s.size≤140737488351232) :
  Calls Tryd.prog 90 #[.slice A l.length c,.func (.func 74) #[] #[]] w fun e w' => e = .returned (.int .i64 (idxT l 0))∧Below w.heap.size w w':=by
 have HT:=Lib.hid ht;have HR:=Lib.hid hr;have HS:=Lib.hid hs;clear ht hr hs;go_enter Tryd.func90,Tryd.ntmps90;go_wp2_with (fail)
 go_loopg [8] l.length (fun kq v8 wr => ∃ i:Int,v8 = .int .i64 i∧0≤i∧i+kq = l.length∧Aside0 (idxT (l.drop i.toNat) i = idxT l 0)∧Aside0 (Below w.heap.size w wr))
 case atStart => exact ⟨0,rfl,by omega,by omega,⟨rfl⟩,⟨Below.refl _ _⟩⟩
 case round =>
  obtain ⟨i,rfl,hi0,hik,hidx,hbel⟩:=hrel;by_cases hlt:i < (l.length:Int)
  ·have t0:decide (i < (l.length:Int)) = true:=decide_eq_true hlt;obtain ⟨ad,cs,e,_,hK,hcell⟩:=Kd.C_get (Kd.C_below HR.out hbel.out) ByteArray.empty i hi0 hlt;cases e
   obtain ⟨s,hsd⟩:∃ s,s = l.getD i.toNat ByteArray.empty:=⟨_,rfl⟩;rw [← hsd] at hK;have hx:wr.cell? (ad.add i.toNat) = some (.string s):=by
    have h:cs = [.string s]:=hK;subst h;have h2:=hcell 0 (.string s) rfl;rwa [Nat.add_zero,show Kd.string.sz = 1 from rfl,Nat.mul_one] at h2
   have hsm:s ∈ l:=by rw [hsd,List.getD_eq_getElem?_getD,List.getElem?_eq_getElem (by omega)];exact List.getElem_mem _
   have hd:l.drop i.toNat = s :: l.drop (i.toNat+1):=by
    rw [List.drop_eq_getElem_cons (by omega),hsd,List.getD_eq_getElem?_getD,List.getElem?_eq_getElem (by omega)];rfl
   have hi2:=hidx.out;rw [hd,idxT] at hi2;have HI:=Lib.hid hi2;have HM:=Lib.hid hsm;clear hi2 hd hcell hK hsd hsm;obtain ⟨gk,rfl⟩:∃ g,gk = g+1:=⟨gk - 1,by omega⟩;go_wp2_with (fail)
   refine (check1_calls s wr (HT.out.below hbel.out) (HS.out s HM.out)).mono ?_;rintro e w1 ⟨rfl,hb1⟩;have HB1:=Lib.hid (below_step hbel.out hb1);clear hb1 hx;cases hbk:badT s with
   | true =>
    have HK:=Lib.hid hbk;clear hbk;go_wp2_with (fail)
    go_ret;exact ⟨by show Ending.returned (.int .i64 i) = _;rw [← HI.out,if_pos HK.out],HB1.out⟩
   | false =>
    have HK:=Lib.hid hbk;clear hbk;go_wp2_with (fail)
    go_roundg gk
    case measure => omega
    case rel => exact ⟨i+1,rfl,by omega,by omega,⟨by rw [show (i+1).toNat = i.toNat+1 by omega,← HI.out,if_neg (by rw [HK.out];simp)]⟩,⟨HB1.out⟩⟩
  ·have t0:decide (i < (l.length:Int)) = false:=decide_eq_false hlt;go_wp2_with (fail)
   go_ret;exact ⟨by rw [← hidx.out,List.drop_of_length_le (by omega)];rfl,hbel.out⟩
set_option maxRecDepth 100000 in
theorem contains_texts (A:Option Addr) (c:Nat) (l:List ByteArray) (w:World) (ht:TabsOn w) (hr:Kd.C Kd.string w A l.length l) (hl:l.length≤8796093022208) (hs:∀ s ∈ l,s.size≤140737488351232) :
  Calls Tryd.prog 73 #[.slice A l.length c,.func (.func 74) #[] #[]] w fun e w' => e = .returned (.bool (l.any badT))∧Below w.heap.size w w':=by
 have HT:=Lib.hid ht;have HR:=Lib.hid hr;have HS:=Lib.hid hs;clear ht hr hs;go_enter Tryd.func73,Tryd.ntmps73;go_wp2_with (fail)
 refine (idx_texts A c l w HT.out HR.out hl HS.out).mono ?_;rintro e w1 ⟨rfl,hb1⟩;have HB:=Lib.hid hb1;have he:decide (0≤idxT l 0) = l.any badT:=by
  rw [Bool.eq_iff_iff,decide_eq_true_eq];exact idxT_any l 0 (by omega)
 have HE:=Lib.hid he;clear hb1 he;obtain ⟨z,hz⟩:∃ z,z = idxT l 0:=⟨_,rfl⟩;rw [← hz];have HZ:=Lib.hid hz;clear hz;go_wp2_with (fail)
 go_ret;exact ⟨by show Ending.returned (.bool (decide (0≤z))) = _;rw [← HE.out,← HZ.out],HB.out⟩
def checkV (l0_1:List Int) (l0_2:List ByteArray) (l0_3:List Int) (l1_0:List Int) (a1_1 a1_2 a1_3:Int) (b:Bool):Int :=
 if b = false then 10 else if (l0_2.length:Int)≠a1_1 ∨ l0_2.any badT = true then 11 else if (l0_3.length:Int) < a1_2 ∨ (0≤a1_3∧a1_3 < (l0_3.length:Int)) then 12 else 0
theorem fcheck_calls (k:Nat) (a0_0:Int) (A1:Option Addr) (c1:Nat) (l1:List Int) (A2:Option Addr) (c2:Nat) (l2:List ByteArray) (A3:Option Addr) (c3:Nat) (l3:List Int) (B0:Option Addr) (d0:Nat) (m0:List Int) (n1 n2 n3:Int) (b:Bool) (w:World) (ht:TabsOn w)
  (h1:Kd.C (Kd.int .i64) w A1 l1.length l1) (g1:l1.length≤c1) (h2:Kd.C Kd.string w A2 l2.length l2) (h3:Kd.C (Kd.int .i64) w A3 l3.length l3) (hm:Kd.C (Kd.int .i64) w B0 m0.length m0) (gm:m0.length≤d0) (hn:field_numbers.f k l1 m0 = some b) (hl:l2.length≤8796093022208) (hs:∀ s ∈ l2,s.size≤140737488351232) :
  Calls Tryd.prog 45 #[.agg #[.int .i64 a0_0,.slice A1 l1.length c1,.slice A2 l2.length c2,.slice A3 l3.length c3],.agg #[.slice B0 m0.length d0,.int .i64 n1,.int .i64 n2,.int .i64 n3]] w fun e w' => e = .returned (.int .i64 (checkV l1 l2 l3 m0 n1 n2 n3 b))∧Below w.heap.size w w':=by
 have HT:=Lib.hid ht;have H1:=Lib.hid h1;have H2:=Lib.hid h2;have H3:=Lib.hid h3;have HM:=Lib.hid hm;have HN:=Lib.hid hn;have HS:=Lib.hid hs;clear ht h1 h2 h3 hm hn hs;go_enter Tryd.func45,Tryd.ntmps45;go_upto_region 1 with (fail)
 have hA:=blk_alloc (heap_alloc_new w (.cells #[.int .i64 a0_0,.slice A1 l1.length c1,.slice A2 l2.length c2,.slice A3 l3.length c3] 53)) (.cells #[.slice B0 m0.length d0,.int .i64 n1,.int .i64 n2,.int .i64 n3] 57);have hS:=heap_alloc_new (w.alloc (.cells #[.int .i64 a0_0,.slice A1 l1.length c1,.slice A2 l2.length c2,.slice A3 l3.length c3] 53)) (.cells #[.slice B0 m0.length d0,.int .i64 n1,.int .i64 n2,.int .i64 n3] 57);rw [show (w.alloc (.cells #[.int .i64 a0_0,.slice A1 l1.length c1,.slice A2 l2.length c2,.slice A3 l3.length c3] 53)).heap.size = w.heap.size+1 by simp] at hS;have hB:Below w.heap.size w ((w.alloc (.cells #[.int .i64 a0_0,.slice A1 l1.length c1,.slice A2 l2.length c2,.slice A3 l3.length c3] 53)).alloc (.cells #[.slice B0 m0.length d0,.int .i64 n1,.int .i64 n2,.int .i64 n3] 57)):=((Below.refl _ w).alloc (Nat.le_refl _) _).alloc (by simp) _;generalize ((w.alloc (.cells #[.int .i64 a0_0,.slice A1 l1.length c1,.slice A2 l2.length c2,.slice A3 l3.length c3] 53)).alloc (.cells #[.slice B0 m0.length d0,.int .i64 n1,.int .i64 n2,.int .i64 n3] 57)) = w1 at hA hS hB ⊢;have HA:=Lib.hid hA;have HSp:=Lib.hid hS;have HB:=Lib.hid hB;have p1:w1.cell? ⟨w.heap.size,1,none⟩ = some (.slice A1 l1.length c1):=(blk_cell hA 1).trans rfl;have p2:w1.cell? ⟨w.heap.size+1,0,none⟩ = some (.slice B0 m0.length d0):=(blk_cell hS 0).trans rfl;clear hA hS hB;go_wp2_with (fail)
 refine (field_numbers.calls k A1 c1 l1 B0 d0 m0 b w1 (Kd.C_below H1.out HB.out) g1 (Kd.C_below HM.out HB.out) gm HN.out).mono ?_;rintro e w2 ⟨rfl,hd2⟩;have hb2:Below w1.heap.size w1 w2:=hd2.below;have HA2:=Lib.hid ((hb2.block _ (blk_lt HA.out)).trans HA.out);have HS2:=Lib.hid ((hb2.block _ (blk_lt HSp.out)).trans HSp.out);have HB2:=Lib.hid (below_step HB.out hb2);clear hb2 hd2 p1 p2;have q2:w2.cell? ⟨w.heap.size,2,none⟩ = some (.slice A2 l2.length c2):=(blk_cell HA2.out 2).trans rfl;have q3:w2.cell? ⟨w.heap.size,3,none⟩ = some (.slice A3 l3.length c3):=(blk_cell HA2.out 3).trans rfl;have s1:w2.cell? ⟨w.heap.size+1,1,none⟩ = some (.int .i64 n1):=(blk_cell HS2.out 1).trans rfl;have s2:w2.cell? ⟨w.heap.size+1,2,none⟩ = some (.int .i64 n2):=(blk_cell HS2.out 2).trans rfl;have s3:w2.cell? ⟨w.heap.size+1,3,none⟩ = some (.int .i64 n3):=(blk_cell HS2.out 3).trans rfl;cases b with
 | false =>
  go_wp2_with (fail)
  go_ret;exact ⟨by show Ending.returned (.int .i64 10) = _;unfold checkV;rw [if_pos rfl],HB2.out⟩
 | true =>
  by_cases hne:(l2.length:Int) = n1
  ·have u1:decide ((l2.length:Int) = n1) = true:=decide_eq_true hne;have u1b:((l2.length:Int) == n1) = true:=by simpa using hne
   have HNE:=Lib.hid hne;clear hne;go_wp2_with (fail)
   refine (contains_texts A2 c2 l2 w2 (HT.out.below HB2.out) (Kd.C_below H2.out HB2.out) hl HS.out).mono ?_;rintro e w3 ⟨rfl,hb3⟩;have HA3:=Lib.hid ((hb3.block _ (blk_lt HA2.out)).trans HA2.out);have HS3:=Lib.hid ((hb3.block _ (blk_lt HS2.out)).trans HS2.out);have HB3:=Lib.hid (below_step HB2.out hb3);clear hb3 q2 q3 s1 s2 s3;have q3:w3.cell? ⟨w.heap.size,3,none⟩ = some (.slice A3 l3.length c3):=(blk_cell HA3.out 3).trans rfl;have s2:w3.cell? ⟨w.heap.size+1,2,none⟩ = some (.int .i64 n2):=(blk_cell HS3.out 2).trans rfl;have s3:w3.cell? ⟨w.heap.size+1,3,none⟩ = some (.int .i64 n3):=(blk_cell HS3.out 3).trans rfl;cases hbt:l2.any badT with
   | true =>
    have HBT:=Lib.hid hbt;clear hbt;go_wp2_with (fail)
    go_ret;exact ⟨by show Ending.returned (.int .i64 11) = _;unfold checkV;rw [if_neg (by simp),if_pos (.inr HBT.out)],HB3.out⟩
   | false =>
    have HBT:=Lib.hid hbt;clear hbt;have hno:¬ ((l2.length:Int)≠n1 ∨ l2.any badT = true):=fun h => h.elim (fun h => h HNE.out) (fun h => by rw [HBT.out] at h;cases h)
    have HNO:=Lib.hid hno;clear hno;by_cases x1:(l3.length:Int) < n2
    ·have v1:decide ((l3.length:Int) < n2) = true:=decide_eq_true x1;have X1:=Lib.hid x1;clear x1;go_wp2_with (fail)
     go_ret;exact ⟨by show Ending.returned (.int .i64 12) = _;unfold checkV;rw [if_neg (by simp),if_neg HNO.out,if_pos (.inl X1.out)],HB3.out⟩
    ·have v1:decide ((l3.length:Int) < n2) = false:=decide_eq_false x1;have X1:=Lib.hid x1;clear x1;by_cases x2:0≤n3
     ·have v2:decide (0≤n3) = true:=decide_eq_true x2;have X2:=Lib.hid x2;clear x2;by_cases x3:n3 < (l3.length:Int)
      ·have v3:decide (n3 < (l3.length:Int)) = true:=decide_eq_true x3;have X3:=Lib.hid x3;clear x3;go_wp2_with (fail)
       go_ret;exact ⟨by show Ending.returned (.int .i64 12) = _;unfold checkV;rw [if_neg (by simp),if_neg HNO.out,if_pos (.inr ⟨X2.out,X3.out⟩)],HB3.out⟩
      ·have v3:decide (n3 < (l3.length:Int)) = false:=decide_eq_false x3;have X3:=Lib.hid x3;clear x3;go_wp2_with (fail)
       go_ret;exact ⟨by show Ending.returned (.int .i64 0) = _;unfold checkV;rw [if_neg (by simp),if_neg HNO.out,if_neg (fun h => by have h1:=X1.out;have h3:=X3.out;omega)],HB3.out⟩
     ·have v2:decide (0≤n3) = false:=decide_eq_false x2;have X2:=Lib.hid x2;clear x2;go_wp2_with (fail)
      go_ret;exact ⟨by show Ending.returned (.int .i64 0) = _;unfold checkV;rw [if_neg (by simp),if_neg HNO.out,if_neg (fun h => by have h1:=X1.out;have h3:=X2.out;omega)],HB3.out⟩
  ·have u1:decide ((l2.length:Int) = n1) = false:=decide_eq_false hne;have u1b:((l2.length:Int) == n1) = false:=by simpa using hne
   have HNE:=Lib.hid hne;clear hne;go_wp2_with (fail)
   go_ret;exact ⟨by show Ending.returned (.int .i64 11) = _;unfold checkV;rw [if_neg (by simp),if_pos (.inl HNE.out)],HB2.out⟩
end
def field_Check.f (k:Nat) (a0_0:Int) (l0_1:List Int) (l0_2:List ByteArray) (l0_3:List Int) (l1_0:List Int) (a1_1 a1_2 a1_3:Int):Option Int:=(field_numbers.f k l0_1 l1_0).bind fun b => if l0_2.length≤8796093022208∧(l0_2.all fun s => decide (s.size≤70368744177664)) = true then some (checkV l0_1 l0_2 l0_3 l1_0 a1_1 a1_2 a1_3 b) else none
theorem field_Check.calls (k:Nat) (a0_0:Int) (A0_1:Option Addr) (c0_1:Nat) (l0_1:List Int) (A0_2:Option Addr) (c0_2:Nat) (l0_2:List ByteArray) (A0_3:Option Addr) (c0_3:Nat) (l0_3:List Int) (A1_0:Option Addr) (c1_0:Nat) (l1_0:List Int) (a1_1:Int) (a1_2:Int) (a1_3:Int) (r:Int) (w:World) (ht_:∀ w',Below w.heap.size w w'→Go.Lib.Utf8Tabs 0 1 w') (hr0_1:Kd.C (Kd.int .i64) w A0_1 l0_1.length l0_1) (hc0_1:l0_1.length≤c0_1) (hr0_2:Kd.C Kd.string w A0_2 l0_2.length l0_2) (hc0_2:l0_2.length≤c0_2) (hr0_3:Kd.C (Kd.int .i64) w A0_3 l0_3.length l0_3) (hc0_3:l0_3.length≤c0_3) (hr1_0:Kd.C (Kd.int .i64) w A1_0 l1_0.length l1_0) (hc1_0:l1_0.length≤c1_0) (h:field_Check.f k a0_0 l0_1 l0_2 l0_3 l1_0 a1_1 a1_2 a1_3 = some r) :
  Calls Tryd.prog 45 #[.agg #[.int .i64 a0_0,.slice A0_1 l0_1.length c0_1,.slice A0_2 l0_2.length c0_2,.slice A0_3 l0_3.length c0_3],.agg #[.slice A1_0 l1_0.length c1_0,.int .i64 a1_1,.int .i64 a1_2,.int .i64 a1_3]] w fun e w' => e = .returned (.int .i64 r)∧Below w.heap.size w w':=by
 unfold field_Check.f at h
 obtain ⟨b,hn,h2⟩:=Option.bind_eq_some_iff.1 h;split at h2
 ·rename_i hq;obtain rfl:=Option.some.inj h2;exact fcheck_calls k a0_0 A0_1 c0_1 l0_1 A0_2 c0_2 l0_2 A0_3 c0_3 l0_3 A1_0 c1_0 l1_0 a1_1 a1_2 a1_3 b w ht_ hr0_1 hc0_1 hr0_2 hr0_3 hr1_0 hc1_0 hn hq.1 (fun s hs => by have:=List.all_eq_true.1 hq.2 s hs;simp at this;omega)
 ·cases h2
end Go.Proofs.YtcphcaiiofeflaaDoor.GO
