
import Derived.Test.YtcphcaiiofeflaaDoorOmGOx0
import Derived.Test.YtcphcaiiofeflaaDoorOmGOx10
import Derived.Test.YtcphcaiiofeflaaDoorOmGOx16
namespace Go.Proofs.YtcphcaiiofeflaaDoor.GO
open Go.RowKit Go.Proofs.YtcphcaiiofeflaaDoorW.PrintWords Go.Proofs.YtcphcaiiofeflaaDoorW.PrintLast Go.Proofs.YtcphcaiiofeflaaDoorW.PrintMore
attribute [local go_sem] max2_int min2_int max_two min_two max_three min_three max_four min_four
set_option maxHeartbeats 8000000
set_option maxRecDepth 100000
set_option linter.unusedVariables false
set_option linter.unusedSimpArgs false
section
open Go.Lib
def SI (f:Nat→Nat) (w:World) (base:Nat) (ok:Nat→Prop) (g cap:Nat) (xs:List (S53)) (inner:List Value):Prop :=
 ok g∧w.ownsRow base 53 4 (.slice (some ⟨g,0,none⟩) xs.length cap) xs.length inner∧inner.length = xs.length * 4 ∧
  ∀ (j:Nat) (x:S53),xs[j]? = some x→k53.M w base (fun k => (ok k∧k≠g)∧f k = j) x ((inner.drop (j * 4)).take 4)
theorem ne_own {g k n c:Nat} (h:some k≠(Value.slice (some ⟨g,0,none⟩) n c).ownBlock):k≠g:=fun e => h (by rw [e];rfl)
theorem SI_of {w:World} {base:Nat} {ok:Nat→Prop} {g cap n:Nat} {xs:List (S53)} (h:Kd.S k53 53 w base ok (.slice (some ⟨g,0,none⟩) n cap) xs):n = xs.length∧∃ f inner,SI f w base ok g cap xs inner:=by
 have hn:=(Kd.R_reads' (Kd.S_R h)).1;subst hn;obtain ⟨f,h0,inner,ho,hr⟩:=h;rw [List.length_zipIdx] at ho;refine ⟨rfl,f,inner,h0 g rfl,ho,by have:=hr.1;rw [List.length_zipIdx] at this;exact this,fun j x hx => ?_⟩;exact k53.M_mono (fun k hk => ⟨⟨hk.1.1,ne_own hk.1.2⟩,hk.2⟩) (hr.2 j (x,j) (Kd.zip_at hx))
theorem SI_step {f:Nat→Nat} {w w1:World} {base:Nat} {ok:Nat→Prop} {g cap:Nat} {xs:List (S53)} {inner:List Value} (h:SI f w base ok g cap xs inner) (hm:∀ k,ok k→k < w.heap.size→w1.heap[k]? = w.heap[k]?):SI f w1 base ok g cap xs inner:=by
 obtain ⟨h0,h1,h2,h3⟩:=h;refine ⟨h0,?_,h2,fun j x hx => ?_⟩
 ·obtain ⟨q1,q2⟩:=h1;refine ⟨q1,q2.imp id ?_⟩;rintro ⟨g',cap',cur,hv,hb,hg,rest⟩;have hg':g' = g:=by cases hv;rfl
  subst hg';exact ⟨g',cap',cur,hv,hb,(hm g' h0 (blk_lt hg)).trans hg,rest⟩
 ·exact k53.M_mono (fun k hk => hk.1) (k53.M_move (w1:=w1) (fun k hk => hm k hk.1.1.1 hk.2.2.1) (k53.M_bound (h3 j x hx)))
theorem SI_at {f:Nat→Nat} {w:World} {base:Nat} {ok:Nat→Prop} {g cap:Nat} {xs:List (S53)} {inner:List Value} (h:SI f w base ok g cap xs inner) {j:Nat} {x:S53} (hx:xs[j]? = some x) :
  ∃ v1 v2 v3,(inner.drop (j * 4)).take 4 = [.int .i64 x.f0,v1,v2,v3]∧(Kd.int .i64).R 2 w base (fun k => (ok k∧k≠g)∧f k = j) v1 x.f1∧Kd.string.R 9 w base (fun k => (ok k∧k≠g)∧f k = j) v2 x.f2∧(Kd.int .i64).R 3 w base (fun k => (ok k∧k≠g)∧f k = j) v3 x.f3 ∧
   (∀ i,i < 4→w.cell? ⟨g,j * 4+i,none⟩ = [.int .i64 x.f0,v1,v2,v3][i]?):=by
 obtain ⟨h0,h1,h2,h3⟩:=h;obtain ⟨v1,v2,v3,e,r1,r2,r3⟩:=k53_openM (h3 j x hx);refine ⟨v1,v2,v3,e,r1,r2,r3,fun i hi => ?_⟩;have hj:j < xs.length:=(List.getElem?_eq_some_iff.1 hx).1;have hc:inner[j * 4+i]? = [Value.int .i64 x.f0,v1,v2,v3][i]?:=by
  rw [← e,List.getElem?_take,if_pos hi,List.getElem?_drop]
 rw [← hc,List.getElem?_eq_getElem (by omega)];have:=h1.cells (g:=g) rfl (j * 4+i) _ (List.getElem?_eq_getElem (by omega));rwa [add_plain] at this
theorem SI_kids {f:Nat→Nat} {w w1:World} {base:Nat} {ok:Nat→Prop} {g cap:Nat} {xs:List (S53)} {inner:List Value} (h:SI f w base ok g cap xs inner) {i:Nat} {x:S53} (hx:xs[i]? = some x)
  {v1 v2 v3:Value} (e:(inner.drop (i * 4)).take 4 = [.int .i64 x.f0,v1,v2,v3]) (hg:w.grownBy w1 v3.ownBlock) {K:List Int} (hown:w1.ownsRow base 3 1 v3 K.length (K.map (Value.int .i64))):SI f w1 base ok g cap (xs.set i ⟨x.f0,x.f1,x.f2,K⟩) inner:=by
 obtain ⟨h0,h1,h2,h3⟩:=h;obtain ⟨u1,u2,u3,e',r1,r2,r3⟩:=k53_openM (h3 i x hx);rw [e] at e';simp only [List.cons.injEq,and_true,true_and] at e';obtain ⟨rfl,rfl,rfl⟩:=e';have hv3:=r3.1;have hng:v3.ownBlock≠some g:=fun hq => (hv3 g hq).1.2 rfl
 have hil:i < xs.length:=(List.getElem?_eq_some_iff.1 hx).1;refine ⟨h0,?_,by rw [List.length_set];exact h2,fun j y hy => ?_⟩
 ·rw [List.length_set];obtain ⟨q1,q2⟩:=h1;refine ⟨q1,q2.imp id ?_⟩;rintro ⟨g',cap',cur,hv,hb,hg',rest⟩;have hgg:g' = g:=by cases hv;rfl
  subst hgg;exact ⟨g',cap',cur,hv,hb,(hg.block g' (blk_lt hg') (fun q => hng q.symm)).trans hg',rest⟩
 ·by_cases hj:j = i
  ·subst hj;rw [List.getElem?_set_self hil] at hy;obtain rfl:=Option.some.inj hy;rw [e];have R3:(Kd.int .i64).R 3 w1 base (fun k => (ok k∧k≠g)∧f k = j) v3 K:=⟨hv3,(Kw.R_of_own (enc:=Value.int .i64) (h1:=fun _ => rfl) hown).2.imp_ (fun _ _ hp => hp)⟩;exact k53_mkM w1 base _ ⟨x.f0,x.f1,x.f2,K⟩ (Kd.R_over r1 r3 (by decide) hg) (Kd.R_over r2 r3 (by decide) hg) R3
  ·rw [List.getElem?_set_ne (Ne.symm hj)] at hy;have hM:=h3 j y hy;refine k53.M_mono (fun k hk => hk.1) (k53.M_move (w1:=w1) (fun k hk => hg.block k hk.2.2.1 (fun q => ?_)) (k53.M_bound hM));have h5:=(hv3 k q.symm).2;have h6:=hk.1.2;omega
def chunks (inner:List Value) (n:Nat):List (List Value):=(List.range n).map fun j => (inner.drop (j * 4)).take 4
theorem S_turned {f:Nat→Nat} {w:World} {base:Nat} {ok:Nat→Prop} {g cap go cao:Nat} {xs:List (S53)} {inner:List Value} (h:SI f w base ok g cap xs inner) (hgo:∀ k,ok k→k≠go)
  (ho:(Kd.raw 4).R 53 w base (fun _ => True) (.slice (some ⟨go,0,none⟩) xs.length cao) ((chunks inner xs.length).reverse)):Kd.S k53 53 w base (fun _ => True) (.slice (some ⟨go,0,none⟩) xs.length cao) xs.reverse:=by
 obtain ⟨h0,h1,h2,h3⟩:=h;obtain ⟨_,inner',ho',hr'⟩:=ho;have hlen:((chunks inner xs.length).reverse).length = xs.length:=by simp [chunks]
 rw [hlen] at ho';refine ⟨fun k => xs.length - 1 - f k,fun _ _ => trivial,inner',by rw [List.length_zipIdx,List.length_reverse];exact ho',by have:=hr'.1;rw [hlen] at this;rw [List.length_zipIdx,List.length_reverse];exact this,fun j p hp => ?_⟩;rw [List.getElem?_zipIdx,Nat.zero_add] at hp;obtain ⟨y,hy,rfl⟩:=Option.map_eq_some_iff.1 hp;have hj:j < xs.length:=by have:=(List.getElem?_eq_some_iff.1 hy).1;simpa using this
 rw [List.getElem?_reverse hj] at hy;have hc:(chunks inner xs.length).reverse[j]? = some ((inner.drop ((xs.length - 1 - j) * 4)).take 4):=by
  rw [List.getElem?_reverse (by simp [chunks];exact hj)];simp only [chunks,List.length_map,List.length_range];rw [List.getElem?_map,List.getElem?_range (by omega)];rfl
 have e1:=(hr'.2 j _ hc).1;show k53.M w base _ y ((inner'.drop (j * 4)).take 4)
 rw [show (inner'.drop (j * 4)).take 4 = _ from e1];refine k53.M_mono (fun k hk => ⟨⟨trivial,?_⟩,by show xs.length - 1 - f k = j;have:=hk.2;omega⟩) (h3 _ y hy);intro hq;simp only [Value.ownBlock,Option.some.injEq] at hq;exact hgo k hk.1.1 hq
def turnK (m:Int) (y:S53):S53:=⟨y.f0,y.f1,y.f2,y.f3.map fun k => m - k⟩
def flatAt (C:List (S53)) (m:Int) (i:Nat):List (S53):=(C.take i).map (turnK m) ++ C.drop i
theorem flatAt_zero (C:List (S53)) (m:Int):flatAt C m 0 = C:=by simp [flatAt]
theorem flatAt_get (C:List (S53)) (m:Int) (i:Nat) (hi:i < C.length):(flatAt C m i)[i]? = C[i]?:=by
 unfold flatAt
 rw [List.getElem?_append_right (by simp;omega)];have h0:i - ((C.take i).map (turnK m)).length = 0:=by simp;omega
 rw [h0,List.getElem?_drop,Nat.add_zero]
theorem flatAt_set (C:List (S53)) (m:Int) (i:Nat) (hi:i < C.length):(flatAt C m i).set i (turnK m C[i]) = flatAt C m (i+1):=by
 unfold flatAt
 have h0:i - ((C.take i).map (turnK m)).length = 0:=by simp;omega
 rw [List.set_append_right _ _ (by simp;omega),h0,List.drop_eq_getElem_cons hi,List.set_cons_zero,List.take_succ_eq_append_getElem hi,List.map_append,List.append_assoc];rfl
theorem flatAt_all (C:List (S53)) (m:Int):flatAt C m C.length = C.map (turnK m):=by unfold flatAt;rw [List.take_length,List.drop_length,List.append_nil]
def mixT (m:Int) (K:List Int) (j:Nat):List Int:=(K.take j).map (fun k => m - k) ++ K.drop j
theorem mixT_get (m:Int) (K:List Int) (j:Nat) (hj:j < K.length):(mixT m K j)[j]? = some (K.getD j 0):=by
 unfold mixT
 rw [List.getElem?_append_right (by simp;omega)];have h0:j - ((K.take j).map (fun k => m - k)).length = 0:=by simp;omega
 rw [h0,List.getElem?_drop,List.getD_eq_getElem?_getD,Nat.add_zero,List.getElem?_eq_getElem hj];rfl
theorem mixT_step (m:Int) (K:List Int) (j:Nat) (hj:j < K.length):(mixT m K j).set j (m - K.getD j 0) = mixT m K (j+1):=by
 unfold mixT
 have h0:j - ((K.take j).map (fun k => m - k)).length = 0:=by simp;omega
 rw [List.set_append_right _ _ (by simp;omega),h0,List.drop_eq_getElem_cons hj,List.set_cons_zero,List.take_succ_eq_append_getElem hj,List.map_append,List.append_assoc,List.getD_eq_getElem?_getD (l:=K),List.getElem?_eq_getElem hj];rfl
theorem mixT_all (m:Int) (K:List Int):mixT m K K.length = K.map (fun k => m - k):=by unfold mixT;rw [List.take_length,List.drop_length,List.append_nil]
def outAt (rows:List (List Value)) (i:Nat):List (List Value):=List.replicate (rows.length - i) [.int .i64 0,.slice none 0 0,.slice none 0 0,.slice none 0 0] ++ (rows.take i).reverse
theorem outAt_step (rows:List (List Value)) (i:Nat) (hi:i < rows.length):(outAt rows i).set (rows.length - 1 - i) (rows.getD i []) = outAt rows (i+1):=by
 unfold outAt
 have e1:rows.length - i = (rows.length - (i+1))+1:=by omega
 rw [List.set_append_left _ _ (by simp;omega),e1,List.replicate_succ',List.set_append_right _ _ (by simp;omega)];have h0:rows.length - 1 - i - (List.replicate (rows.length - (i+1)) [Value.int .i64 0,.slice none 0 0,.slice none 0 0,.slice none 0 0]).length = 0:=by simp;omega
 rw [h0,List.set_cons_zero,List.take_succ_eq_append_getElem hi,List.reverse_append,List.append_assoc,List.getD_eq_getElem?_getD,List.getElem?_eq_getElem hi];rfl
theorem outAt_all (rows:List (List Value)):outAt rows rows.length = rows.reverse:=by unfold outAt;simp
def flatN (C:List (S53)):List (S53):=(C.map (turnK ((C.length:Int) - 1))).reverse
end
section
open Go.Lib
theorem row_below {w w':World} {base:Nat} {e:TypeId} {v:Value} {n size:Nat} {xs:List Value} (h:w.ownsRow base e size v n xs) (m:Below w.heap.size w w'):w'.ownsRow base e size v n xs:=by
 obtain ⟨h1,h2⟩:=h;refine ⟨h1,h2.imp id ?_⟩;rintro ⟨g,cap,cur,rfl,hb,hg,rest⟩;exact ⟨g,cap,cur,rfl,hb,(m.block g (blk_lt hg)).trans hg,rest⟩
theorem made_raw (n:Nat) (hn:n≤1000000) (W:World):(Kd.raw 4).R 53 (W.alloc (.cells (madeCells #[.int .i64 0,.slice none 0 0,.slice none 0 0,.slice none 0 0] (n * 4)) 53)) W.heap.size (fun _ => True) (.slice (some ⟨W.heap.size,0,none⟩) n n) (List.replicate n [.int .i64 0,.slice none 0 0,.slice none 0 0,.slice none 0 0]):=by
 refine ⟨fun _ _ => trivial,(madeCells #[.int .i64 0,.slice none 0 0,.slice none 0 0,.slice none 0 0] (n * 4)).toList,?_,?_⟩
 ·have h2:=World.ownsRow_lit (base:=W.heap.size) (e:=53) (size:=4) W (madeCells #[.int .i64 0,.slice none 0 0,.slice none 0 0,.slice none 0 0] (n * 4)) n (Nat.le_refl _) (by unfold maxLen;omega) (size_madeCells _ _);rw [List.length_replicate];exact h2
 ·exact Kd.reps_made (size:=4) (z:=.agg #[.int .i64 0,.slice none 0 0,.slice none 0 0,.slice none 0 0]) rfl (by decide) ⟨rfl,rfl,fun u hu => by have hu':u ∈ [Value.int .i64 0,.slice none 0 0,.slice none 0 0,.slice none 0 0]:=hu;simp only [List.mem_cons,List.not_mem_nil,or_false] at hu';rcases hu' with rfl | rfl | rfl | rfl <;> rfl⟩ n
theorem oflat_calls (k:Nat) (A0:Option Addr) (c0:Nat) (l0:List (S53)) (a1:Int) (w:World) (hr0:Kd.C k53 w A0 l0.length l0) (hc0:l0.length≤c0) (C:List (S53)) (rt:Int) (hcn:canon_Canon.f k l0 a1 = some (C,rt,0))
  (hC1:1≤C.length) (hC2:C.length≤1000000) (hK:∀ y ∈ C,y.f3.length≤1000000∧∀ x ∈ y.f3,-1000000000≤x∧x≤1000000000) :
  Calls Tryd.prog 32 #[.agg #[.slice A0 l0.length c0,.int .i64 a1]] w fun e w' => ∃ v0_:Value,e = .returned (.tuple #[.agg #[v0_,.int .i64 0],.int .i64 0])∧Kd.S k53 53 w' w.heap.size (fun _ => True) v0_ (flatN C)∧Below w.heap.size w w':=by
 have HR:=Lib.hid hr0;have HC:=Lib.hid hcn;have HK:=Lib.hid hK;clear hr0 hcn hK;go_enter Tryd.func32,Tryd.ntmps32;go_wp2_with (fail)
 have hZ0:SNil ((w.alloc (.cells #[.slice A0 l0.length c0,.int .i64 a1] 24)).alloc (.cells #[.slice none 0 0,.int .i64 0] 24)) (w.heap.size+1):=by
  have:=heap_alloc_new (w.alloc (.cells #[.slice A0 l0.length c0,.int .i64 a1] 24)) (.cells #[.slice none 0 0,.int .i64 0] 24);have hz:(w.alloc (.cells #[.slice A0 l0.length c0,.int .i64 a1] 24)).heap.size = w.heap.size+1:=by simp
  rw [hz] at this;exact this
 have hB0:Below w.heap.size w ((w.alloc (.cells #[.slice A0 l0.length c0,.int .i64 a1] 24)).alloc (.cells #[.slice none 0 0,.int .i64 0] 24)):=((Below.refl _ w).alloc (Nat.le_refl _) _).alloc (by simp) _;generalize ((w.alloc (.cells #[.slice A0 l0.length c0,.int .i64 a1] 24)).alloc (.cells #[.slice none 0 0,.int .i64 0] 24)) = w0 at hZ0 hB0 ⊢;have HZ0:=Lib.hid hZ0;have HB0:=Lib.hid hB0;clear hZ0 hB0;refine (canon_Canon.calls k A0 c0 l0 a1 C rt 0 w0 (Kd.C_below HR.out HB0.out) hc0 HC.out).mono ?_;rintro e w1 ⟨v1,rfl,hS1,hb1⟩;obtain ⟨A1,c1,rfl⟩:=Kd.S_slice hS1;have HZ1:Hid (SNil w1 (w.heap.size+1)):=Lib.hid ((hb1.block (w.heap.size+1) (blk_lt HZ0.out)).trans HZ0.out);have HB1:=Lib.hid (below_step HB0.out hb1);have HS1:=Lib.hid hS1;clear hb1 hS1;go_upto_region 2 with (fail)
 have hn4:=heap_alloc_new w1 (.cells #[.slice A1 C.length c1,.int .i64 rt] 24);have hb4:Below w1.heap.size w1 (w1.alloc (.cells #[.slice A1 C.length c1,.int .i64 rt] 24)):=(Below.refl _ _).alloc (Nat.le_refl _) _;generalize w1.alloc (.cells #[.slice A1 C.length c1,.int .i64 rt] 24) = w4 at hn4 hb4 ⊢;have HN4:=Lib.hid hn4;have HB4:=Lib.hid (below_step HB1.out hb4);have HS4:=Lib.hid (Kd.S_below HS1.out hb4);have HZ4:=Lib.hid (blk_below HZ1.out hb4);have q0:w4.cell? ⟨w1.heap.size,0,none⟩ = some (.slice A1 C.length c1):=(blk_cell hn4 0).trans rfl;have hmk:∀ W:World,(Instr.makeSlice 22 (.int .i64 (C.length:Int)) (.int .i64 (C.length:Int))).run Tryd.prog W = .ok (.slice (some ⟨W.heap.size,0,none⟩) C.length C.length) (W.alloc (.cells (madeCells #[.int .i64 0,.slice none 0 0,.slice none 0 0,.slice none 0 0] (C.length * 4)) 53)):=made_run C.length hC2;have hzz:=HB1.out.size;have hlt1:=blk_lt hn4;clear hn4 hb4;go_upto_region 6 with (fail)
 have hmR:(Kd.raw 4).R 53 (w4.alloc (.cells (madeCells #[.int .i64 0,.slice none 0 0,.slice none 0 0,.slice none 0 0] (C.length * 4)) 53)) w4.heap.size (fun _ => True) (.slice (some ⟨w4.heap.size,0,none⟩) C.length C.length) (List.replicate C.length [.int .i64 0,.slice none 0 0,.slice none 0 0,.slice none 0 0]):=made_raw C.length hC2 w4;have hs5:(w4.alloc (.cells (madeCells #[.int .i64 0,.slice none 0 0,.slice none 0 0,.slice none 0 0] (C.length * 4)) 53)).heap.size = w4.heap.size+1:=by simp
 have hb6:Below w4.heap.size w4 ((w4.alloc (.cells (madeCells #[.int .i64 0,.slice none 0 0,.slice none 0 0,.slice none 0 0] (C.length * 4)) 53)).alloc (.cells #[.slice (some ⟨w4.heap.size,0,none⟩) C.length C.length,.int .i64 0] 24)):=((Below.refl _ _).alloc (Nat.le_refl _) _).alloc (by simp) _;have hn6:=heap_alloc_new (w4.alloc (.cells (madeCells #[.int .i64 0,.slice none 0 0,.slice none 0 0,.slice none 0 0] (C.length * 4)) 53)) (.cells #[.slice (some ⟨w4.heap.size,0,none⟩) C.length C.length,.int .i64 0] 24);rw [hs5] at hn6;have hmR6:=Kd.R_alloc hmR (.cells #[.slice (some ⟨w4.heap.size,0,none⟩) C.length C.length,.int .i64 0] 24);clear hmR hs5;generalize (w4.alloc (.cells (madeCells #[.int .i64 0,.slice none 0 0,.slice none 0 0,.slice none 0 0] (C.length * 4)) 53)).alloc (.cells #[.slice (some ⟨w4.heap.size,0,none⟩) C.length C.length,.int .i64 0] 24) = w6 at hn6 hb6 hmR6 ⊢;have HN6:=Lib.hid hn6;have HM6:=Lib.hid hmR6;have HB6:=Lib.hid (below_step HB4.out hb6);have HZ6:=Lib.hid (blk_below HZ4.out hb6);obtain ⟨g1,cap1,hg1,hgb,hglt,_⟩:=Kd.S_form HS4.out (by omega);cases hg1
 have hS6:Kd.S k53 53 w6 w0.heap.size (fun k => k < w4.heap.size) (.slice (some ⟨g1,0,none⟩) C.length c1) C:=Kd.S_mono (Kd.S_move (Kd.S_bound HS4.out) (fun k hk => hb6.block k hk.2.2.1)) (fun _ hk => hk.2.2.1);obtain ⟨_,f,inner,hSI⟩:=SI_of hS6;have HSI:=Lib.hid hSI;have q6:w6.cell? ⟨w1.heap.size,0,none⟩ = some (.slice (some ⟨g1,0,none⟩) C.length c1):=(blk_cell (blk_below HN4.out hb6) 0).trans rfl;have hcl:(chunks inner C.length).length = C.length:=by simp [chunks]
 have hw0:w.heap.size+2≤w0.heap.size:=blk_lt HZ0.out;have h46:=hb6.size;clear hn6 hb6 hmR6 hS6 hSI q0 hmk;go_wp2_with (fail)
 clear q6;go_loopg [32] C.length (fun kq v32 wr => ∃ i:Int,v32 = .int .i64 i∧0≤i∧i+kq = C.length∧Aside0 (SI f wr w0.heap.size (fun k => k < w4.heap.size) g1 c1 (flatAt C ((C.length:Int) - 1) i.toNat) inner)∧Aside0 ((Kd.raw 4).R 53 wr w4.heap.size (fun _ => True) (.slice (some ⟨w4.heap.size,0,none⟩) C.length C.length) (outAt (chunks inner C.length) i.toNat))∧Aside0 (wr.heap[w4.heap.size+1]? = some (.cells #[.slice (some ⟨w4.heap.size,0,none⟩) C.length C.length,.int .i64 0] 24 (0,0)))∧Aside0 (SNil wr (w.heap.size+1))∧Aside0 (Below w.heap.size w wr))
 case atStart => exact ⟨0,rfl,by omega,by omega,⟨by rw [show (0:Int).toNat = 0 from rfl,flatAt_zero];exact HSI.out⟩,⟨by have:=HM6.out;unfold outAt;rw [hcl];simpa using this⟩,⟨HN6.out⟩,⟨HZ6.out⟩,⟨HB6.out⟩⟩
 case round =>
  obtain ⟨i,rfl,hi0,hik,hSI,hM,hN,hZ,hB⟩:=hrel;obtain ⟨wo,hwo⟩:∃ z,z = wr:=⟨_,rfl⟩;subst hwo;by_cases hlt:i < (C.length:Int)
  ·have t4:decide (i < (C.length:Int)) = true:=decide_eq_true hlt;obtain ⟨ko,rfl⟩:∃ g,gk = g+1:=⟨gk - 1,by omega⟩;have hin:i.toNat < C.length:=by omega
   obtain ⟨y,hy⟩:∃ y,y = C[i.toNat]:=⟨_,rfl⟩;have hym:y ∈ C:=by rw [hy];exact List.getElem_mem _
   obtain ⟨hy1,hy2⟩:=HK.out y hym;have hget:(flatAt C ((C.length:Int) - 1) i.toNat)[i.toNat]? = some y:=by rw [flatAt_get _ _ _ hin,List.getElem?_eq_getElem hin,hy]
   obtain ⟨v1,v2,v3,hch,r1,r2,r3,hcell⟩:=SI_at hSI.out hget;obtain ⟨B1,d1,rfl⟩:=Kd.R_slice r1;obtain ⟨B2,d2,rfl⟩:=Kd.R_slice r2;obtain ⟨B3,d3,rfl⟩:=Kd.R_slice r3;have x0:wo.cell? ⟨g1,i.toNat * 4,none⟩ = some (.int .i64 y.f0):=hcell 0 (by decide);have x1:wo.cell? ⟨g1,i.toNat * 4+1,none⟩ = some (.slice B1 y.f1.length d1):=hcell 1 (by decide);have x2:wo.cell? ⟨g1,i.toNat * 4+2,none⟩ = some (.slice B2 y.f2.length d2):=hcell 2 (by decide);have x3:wo.cell? ⟨g1,i.toNat * 4+3,none⟩ = some (.slice B3 y.f3.length d3):=hcell 3 (by decide);have HO3:=Lib.hid (Kw.own_of_R r3);have HL3:=Lib.hid (fun k (hk:(Value.slice B3 y.f3.length d3).ownBlock = some k) => (r3.1 k hk).1.1);have HCH:=Lib.hid hch;have HY:=Lib.hid hy;have HGT:=Lib.hid hget;have HY2:=Lib.hid hy2;clear hcell r1 r2 r3 hch hy hym hget hy2;go_upto_region 9 with (fail)
   have hn7:=heap_alloc_new wo (.cells #[.int .i64 y.f0,.slice B1 y.f1.length d1,.slice B2 y.f2.length d2,.slice B3 y.f3.length d3] 53);have hb7:Below wo.heap.size wo (wo.alloc (.cells #[.int .i64 y.f0,.slice B1 y.f1.length d1,.slice B2 y.f2.length d2,.slice B3 y.f3.length d3] 53)):=(Below.refl _ _).alloc (Nat.le_refl _) _;have hz7:(wo.alloc (.cells #[.int .i64 y.f0,.slice B1 y.f1.length d1,.slice B2 y.f2.length d2,.slice B3 y.f3.length d3] 53)).heap.size = wo.heap.size+1:=by simp
   clear x0 x1 x2 x3;generalize wo.alloc (.cells #[.int .i64 y.f0,.slice B1 y.f1.length d1,.slice B2 y.f2.length d2,.slice B3 y.f3.length d3] 53) = w7 at hn7 hb7 hz7 ⊢;have HN7:=Lib.hid hn7;have HB7:=Lib.hid hb7;have HO7:=Lib.hid (row_below HO3.out hb7);have q3:w7.cell? ⟨wo.heap.size,3,none⟩ = some (.slice B3 y.f3.length d3):=(blk_cell hn7 3).trans rfl;have hlt3:∀ k,(Value.slice B3 y.f3.length d3).ownBlock = some k→k < wo.heap.size:=fun k hk => (HO3.out.lt k hk).2
   have HLT3:=Lib.hid hlt3;clear hn7 hb7 hlt3;go_wp2_with (fail)
   clear q3;go_loopg [40] y.f3.length (fun kq v40 wq => ∃ j:Int,v40 = .int .i64 j∧0≤j∧j+kq = y.f3.length∧Aside0 (wq.ownsRow w0.heap.size 3 1 (.slice B3 y.f3.length d3) y.f3.length ((mixT ((C.length:Int) - 1) y.f3 j.toNat).map (Value.int .i64)))∧Aside0 (w7.grownBy wq (Value.slice B3 y.f3.length d3).ownBlock))
   case atStart => exact ⟨0,rfl,by omega,by omega,⟨by rw [show mixT ((C.length:Int) - 1) y.f3 (0:Int).toNat = y.f3 by simp [mixT]];exact HO7.out⟩,⟨⟨rfl,rfl,rfl,Nat.le_refl _,fun _ _ _ => rfl⟩⟩⟩
   case round =>
    obtain ⟨j,rfl,hj0,hjk,hrow,hgr⟩:=hrel;have hne9:some wo.heap.size≠(Value.slice B3 y.f3.length d3).ownBlock:=fun h => by have:=HLT3.out _ h.symm;omega
    have h9r:=(hgr.out.block wo.heap.size (by omega) hne9).trans HN7.out;by_cases hjl:j < (y.f3.length:Int)
    ·have t5:decide (j < (y.f3.length:Int)) = true:=decide_eq_true hjl;obtain ⟨g3,cap3,hv3,hg3,hg3l⟩:=hrow.out.form (by omega);cases hv3
     obtain ⟨kq,rfl⟩:∃ g,gk = g+1:=⟨gk - 1,by omega⟩;obtain ⟨kk,hkk⟩:∃ kk,kk = y.f3.getD j.toNat 0:=⟨_,rfl⟩;have hkm:kk ∈ y.f3:=by rw [hkk,List.getD_eq_getElem?_getD,List.getElem?_eq_getElem (by omega)];exact List.getElem_mem _
     obtain ⟨hk0,hk1⟩:=HY2.out kk hkm;have hsub:IntKind.i64.wrap (((C.length:Int) - 1) - kk) = ((C.length:Int) - 1) - kk:=IntWalk.i64_in _ (by omega);have c1d:wr.drew.cell? ⟨g3,j.toNat,none⟩ = some (.int .i64 kk):=by
      have h:=hrow.out.cellAt j.toNat (by omega);rw [List.getElem?_map,mixT_get _ y.f3 j.toNat (by omega),← hkk] at h;exact h
     have c1:wr.cell? ⟨g3,j.toNat,none⟩ = some (.int .i64 kk):=c1d;have frd:wr.drew.frozen? ⟨g3,j.toNat,none⟩ = false:=hrow.out.frozenAt _;have c3d:wr.drew.cell? ⟨wo.heap.size,3,none⟩ = some (.slice (some ⟨g3,0,none⟩) y.f3.length d3):=(blk_cell h9r 3).trans rfl;have hne1:wo.heap.size≠g3:=fun e => hne9 (by rw [e];rfl)
     have k1:∀ u,(wr.setCell ⟨g3,j.toNat,none⟩ u).drew.cell? ⟨wo.heap.size,3,none⟩ = some (.slice (some ⟨g3,0,none⟩) y.f3.length d3):=fun u => (cell_far (p:=⟨g3,j.toNat,none⟩) hne1 u).trans c3d
     have HKK:=Lib.hid hkk;clear hkk hkm hne9 h9r;go_wp2_with (fail)
     go_region
     all_goals
      go_wp2_with (fail)
      go_roundg kq
      case measure => omega
      case rel =>
       obtain ⟨hs1,hs2⟩:=hrow.out.drew.stored j.toNat (.int .i64 (((C.length:Int) - 1) - kk));refine ⟨j+1,by first | rfl | (congr 1;omega),by omega,by omega,⟨?_⟩,⟨⟨hs2.os.trans hgr.out.os,hs2.tape.trans hgr.out.tape,hs2.output.trans hgr.out.output,Nat.le_trans hgr.out.size hs2.size,fun q hq hqn => (hs2.block q (Nat.lt_of_lt_of_le hq hgr.out.size) hqn).trans (hgr.out.block q hq hqn)⟩⟩⟩;rw [show (j+1).toNat = j.toNat+1 by omega,← mixT_step _ y.f3 j.toNat (by omega),← HKK.out,List.map_set];exact hs1
    ·have t5:decide (j < (y.f3.length:Int)) = false:=decide_eq_false hjl;have hje:j.toNat = y.f3.length:=by omega
     have hkr:=hrow.out;rw [hje,mixT_all] at hkr;have hy:=HY.out;have hset:(flatAt C ((C.length:Int) - 1) i.toNat).set i.toNat ⟨y.f0,y.f1,y.f2,y.f3.map fun k => ((C.length:Int) - 1) - k⟩ = flatAt C ((C.length:Int) - 1) (i.toNat+1):=by
      rw [← flatAt_set _ _ _ hin,← hy];rfl
     have hSI7:=SI_step hSI.out (w1:=w7) (fun k _ hk => HB7.out.block k hk);have hSIq:=SI_kids hSI7 HGT.out HCH.out hgr.out (K:=y.f3.map fun k => ((C.length:Int) - 1) - k) (by rw [List.length_map];exact hkr);rw [hset] at hSIq;have HSIQ:=Lib.hid hSIq;have n0:wr.cell? ⟨wo.heap.size,0,none⟩ = some (.int .i64 y.f0):=(blk_cell h9r 0).trans rfl;have n1:wr.cell? ⟨wo.heap.size,1,none⟩ = some (.slice B1 y.f1.length d1):=(blk_cell h9r 1).trans rfl;have n2:wr.cell? ⟨wo.heap.size,2,none⟩ = some (.slice B2 y.f2.length d2):=(blk_cell h9r 2).trans rfl;have n3:wr.cell? ⟨wo.heap.size,3,none⟩ = some (.slice B3 y.f3.length d3):=(blk_cell h9r 3).trans rfl;have hb4o:w4.heap.size < wo.heap.size:=by have:=blk_lt hN.out;omega
     have hown:∀ k,w4.heap.size≤k→k < wo.heap.size→wr.heap[k]? = wo.heap[k]?:=fun k hk hk2 => (hgr.out.block k (by omega) (fun e => by have:=HL3.out k e.symm;omega)).trans (HB7.out.block k hk2)
     have hNr:=(hown (w4.heap.size+1) (by omega) (blk_lt hN.out)).trans hN.out;have m7:wr.cell? ⟨w4.heap.size+1,0,none⟩ = some (.slice (some ⟨w4.heap.size,0,none⟩) C.length C.length):=(blk_cell hNr 0).trans rfl;have hZr:SNil wr (w.heap.size+1):=(hgr.out.block _ (by have:=blk_lt hZ.out;omega) (fun e => by have:=(HO3.out.lt _ e.symm).1;omega)).trans ((HB7.out.block _ (blk_lt hZ.out)).trans hZ.out);have hMr:(Kd.raw 4).R 53 wr w4.heap.size (fun _ => True) (.slice (some ⟨w4.heap.size,0,none⟩) C.length C.length) (outAt (chunks inner C.length) i.toNat):=R_keepIn hM.out (fun k hk hk2 => hown k hk hk2);have hBr:Below w.heap.size w wr:=Kw.grown_below (below_step hB.out HB7.out) hgr.out (fun g hg => by have:=(HO3.out.lt g hg).1;omega);have HMR:=Lib.hid hMr;have HBR:=Lib.hid hBr;have HNR:=Lib.hid hNr;have HZR:=Lib.hid hZr;obtain ⟨cs,hcl0,_,hcc,hcf⟩:=Kd.R_elem hMr [] (((C.length:Int) - 1) - i) (by omega) (by omega);have hcl4:cs.length = 4:=hcl0;match cs,hcl4,hcl0,hcc with
     | [ca,cb,cc,cd],_,hcl0,hcc =>
     have o0:wr.cell? ⟨w4.heap.size,(((C.length:Int) - 1) - i).toNat * 4,none⟩ = some ca:=hcc 0 ca rfl;have o1:wr.cell? ⟨w4.heap.size,(((C.length:Int) - 1) - i).toNat * 4+1,none⟩ = some cb:=hcc 1 cb rfl;have o2:wr.cell? ⟨w4.heap.size,(((C.length:Int) - 1) - i).toNat * 4+2,none⟩ = some cc:=hcc 2 cc rfl;have o3:wr.cell? ⟨w4.heap.size,(((C.length:Int) - 1) - i).toNat * 4+3,none⟩ = some cd:=hcc 3 cd rfl;have f0:wr.frozen? ⟨w4.heap.size,(((C.length:Int) - 1) - i).toNat * 4,none⟩ = false:=hcf 0;have f1:wr.frozen? ⟨w4.heap.size,(((C.length:Int) - 1) - i).toNat * 4+1,none⟩ = false:=hcf 1;have f2:wr.frozen? ⟨w4.heap.size,(((C.length:Int) - 1) - i).toNat * 4+2,none⟩ = false:=hcf 2;have f3:wr.frozen? ⟨w4.heap.size,(((C.length:Int) - 1) - i).toNat * 4+3,none⟩ = false:=hcf 3;have HCC:=Lib.hid hcc;have hi1:(0:Int)≤((C.length:Int) - 1) - i∧((C.length:Int) - 1) - i < (C.length:Int):=by omega
     obtain ⟨i1,i2⟩:=hi1;clear hkr hy hset hSI7 hSIq h9r hown hNr hMr hBr hZr hcc hcf hne9;go_wp2_with (fail)
     go_roundg ko
     case measure => omega
     case rel =>
      obtain ⟨hRn,hgn⟩:=Kd.R_seg HMR.out (((C.length:Int) - 1) - i) i1 i2 (c:=[ca,cb,cc,cd]) (seg:=[.int .i64 y.f0,.slice B1 y.f1.length d1,.slice B2 y.f2.length d2,.slice B3 y.f3.length d3]) (j:=0) (x':=[.int .i64 y.f0,.slice B1 y.f1.length d1,.slice B2 y.f2.length d2,.slice B3 y.f3.length d3]) (okp:=fun _ => False) hcl0 HCC.out (Nat.le_refl 4) ⟨rfl,rfl,fun u hu => by have hu':u ∈ [.int .i64 y.f0,.slice B1 y.f1.length d1,.slice B2 y.f2.length d2,.slice B3 y.f3.length d3]:=hu;simp only [List.mem_cons,List.not_mem_nil,or_false] at hu';rcases hu' with rfl | rfl | rfl | rfl <;> rfl⟩ (fun k hk => hk.elim);have hkeep:∀ k,k≠w4.heap.size→k < wr.heap.size→(World.setCells wr w4.heap.size ((((C.length:Int) - 1) - i).toNat * 4) [.int .i64 y.f0,.slice B1 y.f1.length d1,.slice B2 y.f2.length d2,.slice B3 y.f3.length d3]).heap[k]? = wr.heap[k]?:=fun k hk hl => hgn.block k hl (by intro h;cases h;exact hk rfl)
      have hwr:wo.heap.size < wr.heap.size:=by have:=hgr.out.size;omega
      refine ⟨i+1,by first | rfl | (congr 1;omega),by omega,by omega,⟨?_⟩,⟨?_⟩,⟨(hkeep _ (by omega) (by have:=blk_lt hN.out;omega)).trans HNR.out⟩,⟨(hkeep _ (by omega) (by have:=blk_lt hZ.out;omega)).trans HZR.out⟩,⟨?_⟩⟩
      ·rw [show (i+1).toNat = i.toNat+1 by omega];exact SI_step HSIQ.out (fun k hk hk2 => hkeep k (by omega) hk2)
      ·rw [show (i+1).toNat = i.toNat+1 by omega,← outAt_step _ _ (by rw [hcl];exact hin),hcl];have e1:(chunks inner C.length).getD i.toNat [] = [.int .i64 y.f0,.slice B1 y.f1.length d1,.slice B2 y.f2.length d2,.slice B3 y.f3.length d3]:=by
        rw [← HCH.out,List.getD_eq_getElem?_getD];unfold chunks
        rw [List.getElem?_map,List.getElem?_range hin];rfl
       rw [e1,show C.length - 1 - i.toNat = (((C.length:Int) - 1) - i).toNat by omega];exact hRn
      ·exact Kw.grown_below HBR.out hgn (fun g hg => by cases hg;omega)
  ·have t4:decide (i < (C.length:Int)) = false:=decide_eq_false hlt;have hin:i.toNat = C.length:=by omega
   have hSIe:=hSI.out;have hMe:=hM.out;rw [hin,flatAt_all] at hSIe;have e0:outAt (chunks inner C.length) C.length = (chunks inner C.length).reverse:=by have:=outAt_all (chunks inner C.length);rw [hcl] at this;exact this
   rw [hin,e0] at hMe;have HSE:=Lib.hid hSIe;have HME:=Lib.hid hMe;have m0:wo.cell? ⟨w4.heap.size+1,0,none⟩ = some (.slice (some ⟨w4.heap.size,0,none⟩) C.length C.length):=(blk_cell hN.out 0).trans rfl;have m1:wo.cell? ⟨w4.heap.size+1,1,none⟩ = some (.int .i64 0):=(blk_cell hN.out 1).trans rfl;have s0:wo.cell? ⟨w.heap.size+1,0,none⟩ = some (.slice none 0 0):=(blk_cell hZ.out 0).trans rfl;have s1:wo.cell? ⟨w.heap.size+1,1,none⟩ = some (.int .i64 0):=(blk_cell hZ.out 1).trans rfl;have f0:=blk_frozen hZ.out 0;have f1:=blk_frozen hZ.out 1;clear hSIe hMe;go_wp2_with (fail)
   have hp:=blk_put (blk_put hZ.out 0 (.slice (some ⟨w4.heap.size,0,none⟩) C.length C.length) rfl) 1 (.int .i64 0) rfl;refine bodyPost_ret (results_ct rfl _ _ (w.heap.size+1) 24 #[.slice (some ⟨w4.heap.size,0,none⟩) C.length C.length,.int .i64 0] (0,0) _ rfl hp Tryd.underlying24 rfl (by kernel_rfl)) rfl ?_;refine ⟨_,rfl,?_,(hB.out.setCell (p:=⟨w.heap.size+1,0,none⟩) (by simp) _).setCell (p:=⟨w.heap.size+1,1,none⟩) (by simp) _⟩;have hlm:(C.map (turnK ((C.length:Int) - 1))).length = C.length:=by simp
   have hfin:Kd.S k53 53 wo w0.heap.size (fun _ => True) (.slice (some ⟨w4.heap.size,0,none⟩) C.length C.length) (flatN C):=by
    have:=S_turned (go:=w4.heap.size) (cao:=C.length) HSE.out (fun k hk => by omega) (by rw [hlm];exact Kd.R_lower (by simpa [chunks] using HME.out) (by have:=HB4.out;have:=HS4.out;omega));rw [hlm] at this;exact this
   exact Kd.S_lower (S_keepIn (S_keepIn hfin (fun k hk _ => Below.heap_setCell _ _ _ _ (by show k≠w.heap.size+1;omega))) (fun k hk _ => Below.heap_setCell _ _ _ _ (by show k≠w.heap.size+1;omega))) (by omega)
theorem oflat_none (k:Nat) (A0:Option Addr) (c0:Nat) (l0:List (S53)) (a1:Int) (w:World) (hr0:Kd.C k53 w A0 l0.length l0) (hc0:l0.length≤c0) (C:List (S53)) (rt q:Int) (hcn:canon_Canon.f k l0 a1 = some (C,rt,q)) (hq:¬ q = 0) :
  Calls Tryd.prog 32 #[.agg #[.slice A0 l0.length c0,.int .i64 a1]] w fun e w' => ∃ v0_:Value,e = .returned (.tuple #[.agg #[v0_,.int .i64 0],.int .i64 q])∧Kd.S k53 53 w' w.heap.size (fun _ => True) v0_ []∧Below w.heap.size w w':=by
 have HR:=Lib.hid hr0;have HC:=Lib.hid hcn;have hqb:(q != 0) = true:=by simpa using hq
 clear hr0 hcn;go_enter Tryd.func32,Tryd.ntmps32;go_wp2_with (fail)
 have hZ0:SNil ((w.alloc (.cells #[.slice A0 l0.length c0,.int .i64 a1] 24)).alloc (.cells #[.slice none 0 0,.int .i64 0] 24)) (w.heap.size+1):=by
  have:=heap_alloc_new (w.alloc (.cells #[.slice A0 l0.length c0,.int .i64 a1] 24)) (.cells #[.slice none 0 0,.int .i64 0] 24);have hz:(w.alloc (.cells #[.slice A0 l0.length c0,.int .i64 a1] 24)).heap.size = w.heap.size+1:=by simp
  rw [hz] at this;exact this
 have hB0:Below w.heap.size w ((w.alloc (.cells #[.slice A0 l0.length c0,.int .i64 a1] 24)).alloc (.cells #[.slice none 0 0,.int .i64 0] 24)):=((Below.refl _ w).alloc (Nat.le_refl _) _).alloc (by simp) _;generalize ((w.alloc (.cells #[.slice A0 l0.length c0,.int .i64 a1] 24)).alloc (.cells #[.slice none 0 0,.int .i64 0] 24)) = w0 at hZ0 hB0 ⊢;have HZ0:=Lib.hid hZ0;have HB0:=Lib.hid hB0;clear hZ0 hB0;refine (canon_Canon.calls k A0 c0 l0 a1 C rt q w0 (Kd.C_below HR.out HB0.out) hc0 HC.out).mono ?_;rintro e w1 ⟨v1,rfl,hS1,hb1⟩;obtain ⟨A1,c1,rfl⟩:=Kd.S_slice hS1;have HZ1:Hid (SNil w1 (w.heap.size+1)):=Lib.hid ((hb1.block (w.heap.size+1) (blk_lt HZ0.out)).trans HZ0.out);have HB1:=Lib.hid (below_step HB0.out hb1);clear hb1 hS1;go_upto_region 2 with (fail)
 have hb4:Below w1.heap.size w1 (w1.alloc (.cells #[.slice A1 C.length c1,.int .i64 rt] 24)):=(Below.refl _ _).alloc (Nat.le_refl _) _;generalize w1.alloc (.cells #[.slice A1 C.length c1,.int .i64 rt] 24) = w4 at hb4 ⊢;have HB4:=Lib.hid (below_step HB1.out hb4);have HZ4:=Lib.hid (blk_below HZ1.out hb4);have s0:w4.cell? ⟨w.heap.size+1,0,none⟩ = some (.slice none 0 0):=(blk_cell HZ4.out 0).trans rfl;have s1:w4.cell? ⟨w.heap.size+1,1,none⟩ = some (.int .i64 0):=(blk_cell HZ4.out 1).trans rfl;have f0:=blk_frozen HZ4.out 0;have f1:=blk_frozen HZ4.out 1;clear hb4;go_wp2_with (fail)
 have hp:=blk_put (blk_put HZ4.out 0 (.slice none 0 0) rfl) 1 (.int .i64 0) rfl;refine bodyPost_ret (results_ct rfl _ _ (w.heap.size+1) 24 #[.slice none 0 0,.int .i64 0] (0,0) _ rfl hp Tryd.underlying24 rfl (by kernel_rfl)) rfl ?_;exact ⟨_,rfl,Kd.S_nil _ _ _ _ _,(HB4.out.setCell (p:=⟨w.heap.size+1,0,none⟩) (by simp) _).setCell (p:=⟨w.heap.size+1,1,none⟩) (by simp) _⟩
end
def old_Flat.f (k:Nat) (l0_0:List (S53)) (a0_1:Int):Option (List (S53) × Int × Int) :=
 (canon_Canon.f k l0_0 a0_1).bind fun c => if c.2.2 = 0 then (if 1≤c.1.length∧c.1.length≤1000000∧(c.1.all fun y => decide (y.f3.length≤1000000∧∀ x ∈ y.f3,-1000000000≤x∧x≤1000000000)) = true then some (flatN c.1,0,0) else none) else some ([],0,c.2.2)
theorem old_Flat.calls (k:Nat) (A0_0:Option Addr) (c0_0:Nat) (l0_0:List (S53)) (a0_1:Int) (r1:List (S53)) (r2:Int) (r3:Int) (w:World) (hr0_0:Kd.C k53 w A0_0 l0_0.length l0_0) (hc0_0:l0_0.length≤c0_0) (h:old_Flat.f k l0_0 a0_1 = some (r1,r2,r3)) :
  Calls Tryd.prog 32 #[.agg #[.slice A0_0 l0_0.length c0_0,.int .i64 a0_1]] w fun e w' => ∃ v0_:Value,e = .returned (.tuple #[.agg #[v0_,.int .i64 r2],.int .i64 r3])∧Kd.S k53 53 w' w.heap.size (fun _ => True) v0_ r1∧Below w.heap.size w w':=by
 unfold old_Flat.f at h
 obtain ⟨⟨C,rt,q⟩,hc,h2⟩:=Option.bind_eq_some_iff.1 h;simp only at h2;split at h2
 ·rename_i hq;subst hq;split at h2
  ·rename_i hb;simp only [Option.some.injEq,Prod.mk.injEq] at h2;obtain ⟨rfl,rfl,rfl⟩:=h2;exact oflat_calls k A0_0 c0_0 l0_0 a0_1 w hr0_0 hc0_0 C rt hc hb.1 hb.2.1 (fun y hy => by simpa using List.all_eq_true.1 hb.2.2 y hy)
  ·cases h2
 ·rename_i hq;simp only [Option.some.injEq,Prod.mk.injEq] at h2;obtain ⟨rfl,rfl,rfl⟩:=h2;exact oflat_none k A0_0 c0_0 l0_0 a0_1 w hr0_0 hc0_0 C rt _ hc hq
mutual
def old_Is.j0:Nat→Bool→List (S53)→Int→Option (Bool)
 | 0,_,_,_ => none
 | k+1,x20,x313000,x313001 => if x20 = true then (some false) else (old_Is.l0 k x313000 (x313000.length:Int) 0)
def old_Is.l0:Nat→List (S53)→Int→Int→Option (Bool)
 | 0,_,_,_ => none
 | k+1,x22,x23,x24 => if x24 < x23 then (if 0≤x24 then (if x24 < (x22.length:Int) then (old_Is.l1 k x24 x22 x23 x24 ((rd_T53 x22 x24).f3) (((rd_T53 x22 x24).f3).length:Int) 0) else (none)) else (none)) else (some true)
def old_Is.l1:Nat→Int→List (S53)→Int→Int→List Int→Int→Int→Option (Bool)
 | 0,_,_,_,_,_,_,_ => none
 | k+1,x5,x22,x23,x24,x30,x31,x32 => if x32 < x31 then (if 0≤x32 then (if x32 < (x30.length:Int) then (if (rd x30 x32)≤x5 then (some false) else (old_Is.l1 k x5 x22 x23 x24 x30 x31 (wrap64 (x32+1)))) else (none)) else (none)) else (old_Is.l0 k x22 x23 (wrap64 (x24+1)))
end
def old_Is.f (k:Nat) (l0_0:List (S53)) (a0_1:Int):Option (Bool):=(graph_Check.f k l0_0 a0_1).bind fun bt313 => (if bt313.1 = 0 then (old_Is.j0 k (a0_1 != 0) l0_0 a0_1) else (old_Is.j0 k true l0_0 a0_1))
theorem old_Is.calls (k:Nat) (A0_0:Option Addr) (c0_0:Nat) (l0_0:List (S53)) (a0_1:Int) (r:Bool) (w:World) (hr0_0:Kd.C k53 w A0_0 l0_0.length l0_0) (hc0_0:l0_0.length≤c0_0) (h:old_Is.f k l0_0 a0_1 = some r) :
  Calls Tryd.prog 33 #[.agg #[.slice A0_0 l0_0.length c0_0,.int .i64 a0_1]] w fun e w' => e = .returned (.bool r)∧Below w.heap.size w w':=by
 have hu24:=Tryd.underlying24;have hu53:=Tryd.underlying53;have HR0_0:=AM hr0_0;have HC0_0:=AM hc0_0;clear hr0_0 hc0_0;have HB:=AM (Below.refl w.heap.size w);have H:((graph_Check.f k l0_0 a0_1).bind fun bt313 => (if bt313.1 = 0 then (old_Is.j0 k (a0_1 != 0) l0_0 a0_1) else (old_Is.j0 k true l0_0 a0_1))) = some r:=h;clear h;replace H:=Option.bind_eq_some_iff.mp H;obtain ⟨⟨t313,t314⟩,A20,H⟩:=H;replace H:(if t313 = 0 then (old_Is.j0 k (a0_1 != 0) l0_0 a0_1) else (old_Is.j0 k true l0_0 a0_1)) = some r:=H;have A2:=AM A20;clear A20;have HC3:=AM H;clear H;go_enter Tryd.func33,Tryd.ntmps33;go_upto_region 2 with (first | ((with_reducible refine gate_dst (N:=1) rfl ?_);refine boxE 1 #[.slice A0_0 l0_0.length c0_0,.int .i64 a0_1] 24 ?_;intro gb312 hg w4 hbox hb;have BK312:=AM (hbox);have GW312:=GW HB hg;have GE312:=GW HB hg;replace HB:=BS HB hb;clear hb hbox hg;have hcz5_0:=BC BK312 0 (.slice A0_0 l0_0.length c0_0) rfl;have hcz5_1:=BC BK312 1 (.int .i64 a0_1) rfl;have hfz5_0:=BF BK312 0;have hfz5_1:=BF BK312 1) | ((with_reducible refine gate_callee (f:=40) rfl ?_);refine goesM_ (some 11) rfl rfl Tryd.func40 #[.agg #[.slice A0_0 l0_0.length c0_0,.int .i64 a0_1]] rfl ?_;(with_reducible refine (graph_Check.calls k _ _ l0_0 a0_1 t313 t314 _ ?side1 ?side2 A2.out).mono ?_);(case side1 => exact Kd.C_below HR0_0.out (BB HB));(case side2 => exact HC0_0.out);rintro e w6 ⟨rfl,hb⟩;refine ⟨_,rfl,?_⟩;replace BK312:=BE BK312 hb;replace HB:=BS HB hb;(try clear hb);(try clear hb2);(try clear hk);(try clear hi)))
 (try simp only [Act.put,List.setIfInBounds_toArray,List.set_cons_zero,List.set_cons_succ])
 go_cut [20] (fun v20 wc => ∃ (kq:Nat) (x20_2:Bool),v20 = .bool x20_2∧Aside0 (old_Is.j0 kq x20_2 l0_0 a0_1 = some r)∧Aside0 (kq≤k)∧Aside0 (wc.heap[gb312]? = some (.cells #[(.slice A0_0 l0_0.length c0_0),.int .i64 a0_1] 24 (0,0)))∧Aside0 (Below w.heap.size w wc))
 case first =>
  have H:=HC3.out;clear HC3;by_cases c7:t313 = 0
  ·rw [if_pos c7] at H;have c7b0:(t313 == 0) = true:=beq_iff_eq.mpr c7;have c7b1:(t313 != 0) = false:=bne_eq_false_iff_eq.mpr c7;clear c7;(first | rw [c7b0] | (simp only [i64_w,i32_w];rw [c7b0]) | skip)
   have H':=AM H;clear H;have hcz8_0:=BC BK312 0 (.slice A0_0 l0_0.length c0_0) rfl;have hcz8_1:=BC BK312 1 (.int .i64 a0_1) rfl;have hfz8_0:=BF BK312 0;have hfz8_1:=BF BK312 1;go_wp2
   go_meet
   case rel => exact ⟨_,((a0_1 != 0)),QD,H',⟨by first | omega | exact Nat.le_refl _⟩,⟨BL BK312⟩,⟨BB HB⟩⟩
  ·rw [if_neg c7] at H;have c7b0:(t313 == 0) = false:=beq_eq_false_iff_ne.mpr c7;have c7b1:(t313 != 0) = true:=bne_iff_ne.mpr c7;(first | rw [c7b0] | (simp only [i64_w,i32_w];rw [c7b0]) | skip)
   have H':=AM H;clear H;go_wp2
   go_meet
   case rel => exact ⟨_,(true),QD,H',⟨by first | omega | exact Nat.le_refl _⟩,⟨BL BK312⟩,⟨BB HB⟩⟩
 case rest =>
  clear HC3;try clear p2
  try clear c3
  try clear c4
  try clear c7
  try clear c7b0
  try clear c7b1
  try clear hcz5_0
  try clear hcz5_1
  try clear hcz8_0
  try clear hcz8_1
  try clear hfz5_0
  try clear hfz5_1
  try clear hfz8_0
  try clear hfz8_1
  obtain ⟨kq,x20_2,rfl,HA,HJ2,BK312,HB⟩:=hcut;cases kq with
  | zero => exact absurd HA.out (by simp [old_Is.j0])
  | succ kj2 =>
   have H:=HA.out;clear HA;simp only [old_Is.j0] at H;by_cases c9:x20_2 = true
   ·subst c9;have H1:(some false) = some r:=by rw [if_pos rfl] at H;exact H
    clear H;have H:=H1;clear H1;obtain rfl:=Option.some.inj H;go_wp2
    go_ret;exact RT (BB HB)
   ·replace c9:=Bool.eq_false_iff.mpr c9;subst c9;have H1:(old_Is.l0 kj2 l0_0 (l0_0.length:Int) 0) = some r:=by rw [if_neg (show ¬ (false = true) by decide)] at H;exact H
    clear H;have H:=H1;clear H1;have H':=AM H;clear H;have hcz10_0:=BC BK312 0 (.slice A0_0 l0_0.length c0_0) rfl;have hcz10_1:=BC BK312 1 (.int .i64 a0_1) rfl;have hfz10_0:=BF BK312 0;have hfz10_1:=BF BK312 1;go_wp2
    go_loopg [24] kj2 (fun kq v24 w' => ∃ (x24_2:Int),v24 = .int .i64 x24_2∧Aside0 (old_Is.l0 kq l0_0 (l0_0.length:Int) x24_2 = some r)∧Aside0 (kq≤kj2)∧Aside0 (w'.heap[gb312]? = some (.cells #[(.slice A0_0 l0_0.length c0_0),.int .i64 a0_1] 24 (0,0)))∧Aside0 (Below w.heap.size w w'))
    case atStart => exact ⟨(0),QD,H',⟨Nat.le_refl _⟩,⟨BL BK312⟩,⟨BB HB⟩⟩
    case round =>
     clear H';try clear p2
     try clear c3
     try clear c4
     try clear c7
     try clear c7b0
     try clear c7b1
     try clear c9
     try clear hcz10_0
     try clear hcz10_1
     try clear hcz5_0
     try clear hcz5_1
     try clear hcz8_0
     try clear hcz8_1
     try clear hfz10_0
     try clear hfz10_1
     try clear hfz5_0
     try clear hfz5_1
     try clear hfz8_0
     try clear hfz8_1
     try clear p2
     obtain ⟨x24_2,rfl,HA,HK2,BK312,HB⟩:=hrel;cases gk with
     | zero => exact absurd HA.out (by simp [old_Is.l0])
     | succ k2 =>
      have H:=HA.out;clear HA;simp only [old_Is.l0] at H;by_cases c11:x24_2 < (l0_0.length:Int)
      ·rw [if_pos c11] at H;have c11b0:decide (x24_2 < (l0_0.length:Int)) = true:=decide_eq_true c11;clear c11;by_cases c12:0≤x24_2
       ·rw [if_pos c12] at H;have c12b0:decide (0≤x24_2) = true:=decide_eq_true c12;clear c12;by_cases c13:x24_2 < (l0_0.length:Int)
        ·rw [if_pos c13] at H;have c13b0:decide (x24_2 < (l0_0.length:Int)) = true:=decide_eq_true c13;clear c13;have H':=AM H;clear H;have p315:0≤(x24_2:Int):=OD;have q315:x24_2 < (l0_0.length:Int):=OD;obtain ⟨ad315,A315_1,c315_1,A315_2,c315_2,A315_3,c315_3,e315,hx315_0,hx315_1,hx315_2,hx315_3,hl315_1,hi315_1,hl315_2,hi315_2,hl315_3,hi315_3⟩:=at_T53 HR0_0.out x24_2 p315 q315;cases e315
         replace hx315_0:=CL HB hx315_0;replace hx315_1:=CL HB hx315_1;replace hx315_2:=CL HB hx315_2;replace hx315_3:=CL HB hx315_3;have HR315_1:=AM hi315_1;have HC315_1:=AM hl315_1;clear hi315_1 hl315_1;have HR315_2:=AM hi315_2;have HC315_2:=AM hl315_2;clear hi315_2 hl315_2;have HR315_3:=AM hi315_3;have HC315_3:=AM hl315_3;clear hi315_3 hl315_3;replace p315:=eq_true p315;replace q315:=eq_true q315;go_wp2_with (first | ((with_reducible refine gate_dst (N:=6) rfl ?_);refine boxE 6 #[.int .i64 0,.slice none 0 0,.slice none 0 0,.slice none 0 0] 53 ?_;intro gb316 hg w14 hbox hb;have BK316:=AM (hbox);have GW316:=GW HB hg;have GE316:=GW HB hg;replace HB:=BS HB hb;have NB312_316:=NL BK312 hg;have NB316_312:=NG BK312 hg;replace BK312:=BE BK312 hb;clear hb hbox hg;have hnb15:=NB316_312.out;have hnc15:=NB312_316.out;have hcz16_0:=BC BK316 0 (.int .i64 0) rfl;have hcz16_1:=BC BK316 1 (.slice none 0 0) rfl;have hcz16_2:=BC BK316 2 (.slice none 0 0) rfl;have hcz16_3:=BC BK316 3 (.slice none 0 0) rfl;have hfz16_0:=BF BK316 0;have hfz16_1:=BF BK316 1;have hfz16_2:=BF BK316 2;have hfz16_3:=BF BK316 3))
         go_loopg [32] k2 (fun kq v32 w' => ∃ (x32_3:Int),v32 = .int .i64 x32_3∧Aside0 (old_Is.l1 kq x24_2 l0_0 (l0_0.length:Int) x24_2 ((rd_T53 l0_0 x24_2).f3) (((rd_T53 l0_0 x24_2).f3).length:Int) x32_3 = some r)∧Aside0 (kq≤k2)∧Aside0 (w'.heap[gb312]? = some (.cells #[(.slice (some ad315) l0_0.length c0_0),.int .i64 a0_1] 24 (0,0)))∧Aside0 (w'.heap[gb316]? = some (.cells #[.int .i64 ((rd_T53 l0_0 x24_2).f0),(.slice A315_1 ((rd_T53 l0_0 x24_2).f1).length c315_1),(.slice A315_2 ((rd_T53 l0_0 x24_2).f2).length c315_2),(.slice A315_3 ((rd_T53 l0_0 x24_2).f3).length c315_3)] 53 (0,0)))∧Aside0 (Below w.heap.size w w'))
         case atStart => exact ⟨(0),QD,H',⟨Nat.le_refl _⟩,⟨by (repeat refine blk_far ?_ NB312_316.out _);exact BL BK312⟩,⟨by refine blk_put (cs:=#[.int .i64 ((rd_T53 l0_0 x24_2).f0),.slice A315_1 ((rd_T53 l0_0 x24_2).f1).length c315_1,.slice A315_2 ((rd_T53 l0_0 x24_2).f2).length c315_2,.slice none 0 0]) ?_ 3 _ rfl;refine blk_put (cs:=#[.int .i64 ((rd_T53 l0_0 x24_2).f0),.slice A315_1 ((rd_T53 l0_0 x24_2).f1).length c315_1,.slice none 0 0,.slice none 0 0]) ?_ 2 _ rfl;refine blk_put (cs:=#[.int .i64 ((rd_T53 l0_0 x24_2).f0),.slice none 0 0,.slice none 0 0,.slice none 0 0]) ?_ 1 _ rfl;refine blk_put (cs:=#[.int .i64 0,.slice none 0 0,.slice none 0 0,.slice none 0 0]) ?_ 0 _ rfl;exact BL BK316⟩,⟨BB HB⟩⟩
         case round =>
          clear H';try clear c1
          try clear p2
          try clear c3
          try clear p3
          try clear q3
          try clear hx3
          try clear c4
          try clear c7
          try clear c7b0
          try clear c7b1
          try clear c9
          try clear c11
          try clear c11b0
          try clear c12
          try clear c12b0
          try clear c13
          try clear c13b0
          try clear c15
          try clear hcz10_0
          try clear hcz10_1
          try clear hcz16_0
          try clear hcz16_1
          try clear hcz16_2
          try clear hcz16_3
          try clear hcz5_0
          try clear hcz5_1
          try clear hcz8_0
          try clear hcz8_1
          try clear hfz10_0
          try clear hfz10_1
          try clear hfz16_0
          try clear hfz16_1
          try clear hfz16_2
          try clear hfz16_3
          try clear hfz5_0
          try clear hfz5_1
          try clear hfz8_0
          try clear hfz8_1
          try clear hx315_0
          try clear hx315_1
          try clear hx315_2
          try clear hx315_3
          try clear p2
          try clear p315
          try clear q315
          obtain ⟨x32_3,rfl,HA,HK3,BK312,BK316,HB⟩:=hrel;cases gk with
          | zero => exact absurd HA.out (by simp [old_Is.l1])
          | succ k3 =>
           have H:=HA.out;clear HA;simp only [old_Is.l1] at H;by_cases c17:x32_3 < (((rd_T53 l0_0 x24_2).f3).length:Int)
           ·rw [if_pos c17] at H;have c17b0:decide (x32_3 < (((rd_T53 l0_0 x24_2).f3).length:Int)) = true:=decide_eq_true c17;clear c17;by_cases c18:0≤x32_3
            ·rw [if_pos c18] at H;have c18b0:decide (0≤x32_3) = true:=decide_eq_true c18;clear c18;by_cases c19:x32_3 < (((rd_T53 l0_0 x24_2).f3).length:Int)
             ·rw [if_pos c19] at H;have c19b0:decide (x32_3 < (((rd_T53 l0_0 x24_2).f3).length:Int)) = true:=decide_eq_true c19;clear c19;by_cases c20:(rd ((rd_T53 l0_0 x24_2).f3) x32_3)≤x24_2
              ·rw [if_pos c20] at H;have c20b0:decide ((rd ((rd_T53 l0_0 x24_2).f3) x32_3)≤x24_2) = true:=decide_eq_true c20;clear c20;obtain rfl:=Option.some.inj H;have p317:0≤(x32_3:Int):=OD;have q317:x32_3 < (((rd_T53 l0_0 x24_2).f3).length:Int):=OD;obtain ⟨ad317,e317,hx317_0⟩:=Kd.at_int HR315_3.out x32_3 p317 q317;cases e317
               replace hx317_0:=CL HB hx317_0;replace p317:=eq_true p317;replace q317:=eq_true q317;go_wp2
               go_ret;exact RT (BB HB)
              ·rw [if_neg c20] at H;have c20b0:decide ((rd ((rd_T53 l0_0 x24_2).f3) x32_3)≤x24_2) = false:=decide_eq_false c20;clear c20;have H':=AM H;clear H;have p317:0≤(x32_3:Int):=OD;have q317:x32_3 < (((rd_T53 l0_0 x24_2).f3).length:Int):=OD;obtain ⟨ad317,e317,hx317_0⟩:=Kd.at_int HR315_3.out x32_3 p317 q317;cases e317
               replace hx317_0:=CL HB hx317_0;replace p317:=eq_true p317;replace q317:=eq_true q317;go_wp2
               go_roundg k3
               case measure => have:=HJ2.out;have:=HK2.out;have:=HK3.out;omega
               case rel => exact ⟨(wrap64 (x32_3+1)),QD,H',⟨by have:=HJ2.out;have:=HK2.out;have:=HK3.out;omega⟩,⟨BL BK312⟩,⟨BL BK316⟩,⟨BB HB⟩⟩
             ·rw [if_neg c19] at H;exact absurd H (by simp)
            ·rw [if_neg c18] at H;exact absurd H (by simp)
           ·rw [if_neg c17] at H;have c17b0:decide (x32_3 < (((rd_T53 l0_0 x24_2).f3).length:Int)) = false:=decide_eq_false c17;clear c17;have H':=AM H;clear H;go_wp2
            go_roundg k3
            case measure => have:=HJ2.out;have:=HK2.out;have:=HK3.out;omega
            case rel => exact ⟨(wrap64 (x24_2+1)),QD,H',⟨by have:=HJ2.out;have:=HK2.out;have:=HK3.out;omega⟩,⟨BL BK312⟩,⟨BB HB⟩⟩
        ·rw [if_neg c13] at H;exact absurd H (by simp)
       ·rw [if_neg c12] at H;exact absurd H (by simp)
      ·rw [if_neg c11] at H;have c11b0:decide (x24_2 < (l0_0.length:Int)) = false:=decide_eq_false c11;clear c11;obtain rfl:=Option.some.inj H;go_wp2
       go_ret;exact RT (BB HB)
def r12_Wide.f :Option (Int × Int × Int × Int × Int):=some (16777216,16777216,16777216,16777216,16777216)
theorem r12_Wide.calls  (r1:Int) (r2:Int) (r3:Int) (r4:Int) (r5:Int) (w:World) (h:r12_Wide.f  = some (r1,r2,r3,r4,r5)) :
  Calls Tryd.prog 55 #[] w fun e w' => e = .returned (.agg #[.int .i64 r1,.int .i64 r2,.int .i64 r3,.int .i64 r4,.int .i64 r5])∧Below w.heap.size w w':=by
 have hu26:=Tryd.underlying26;have HB:=AM (Below.refl w.heap.size w);have H:(some (16777216,16777216,16777216,16777216,16777216)) = some (r1,r2,r3,r4,r5):=h;clear h;simp only [Option.some.injEq,Prod.mk.injEq] at H;obtain ⟨rfl,rfl,rfl,rfl,rfl⟩:=H;go_enter Tryd.func55,Tryd.ntmps55;go_wp2_with (first | ((with_reducible refine gate_dst (N:=0) rfl ?_);refine boxE 0 #[.int .i64 0,.int .i64 0,.int .i64 0,.int .i64 0,.int .i64 0] 26 ?_;intro gb318 hg w1 hbox hb;have BK318:=AM (hbox);have GW318:=GW HB hg;have GE318:=GW HB hg;replace HB:=BS HB hb;clear hb hbox hg;have hcz2_0:=BC BK318 0 (.int .i64 0) rfl;have hcz2_1:=BC BK318 1 (.int .i64 0) rfl;have hcz2_2:=BC BK318 2 (.int .i64 0) rfl;have hcz2_3:=BC BK318 3 (.int .i64 0) rfl;have hcz2_4:=BC BK318 4 (.int .i64 0) rfl;have hfz2_0:=BF BK318 0;have hfz2_1:=BF BK318 1;have hfz2_2:=BF BK318 2;have hfz2_3:=BF BK318 3;have hfz2_4:=BF BK318 4))
 refine bodyPost_ret (results_cell_row rfl _ _ gb318 26 #[.int .i64 16777216,.int .i64 16777216,.int .i64 16777216,.int .i64 16777216,.int .i64 16777216] (0,0) _ rfl (by refine blk_put (cs:=#[.int .i64 16777216,.int .i64 16777216,.int .i64 16777216,.int .i64 16777216,.int .i64 0]) ?_ 4 _ rfl;refine blk_put (cs:=#[.int .i64 16777216,.int .i64 16777216,.int .i64 16777216,.int .i64 0,.int .i64 0]) ?_ 3 _ rfl;refine blk_put (cs:=#[.int .i64 16777216,.int .i64 16777216,.int .i64 0,.int .i64 0,.int .i64 0]) ?_ 2 _ rfl;refine blk_put (cs:=#[.int .i64 16777216,.int .i64 0,.int .i64 0,.int .i64 0,.int .i64 0]) ?_ 1 _ rfl;refine blk_put (cs:=#[.int .i64 0,.int .i64 0,.int .i64 0,.int .i64 0,.int .i64 0]) ?_ 0 _ rfl;exact BL BK318) Tryd.underlying26 rfl (by kernel_rfl)) rfl ?_;exact RT (BB HB)
end Go.Proofs.YtcphcaiiofeflaaDoor.GO
