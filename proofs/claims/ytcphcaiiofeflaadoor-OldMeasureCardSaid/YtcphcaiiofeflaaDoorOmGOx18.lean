
import Derived.Test.YtcphcaiiofeflaaDoorOmGOx0
import Derived.Test.YtcphcaiiofeflaaDoorOmGOx14
import Derived.Test.YtcphcaiiofeflaaDoorOmGOx17
namespace Go.Proofs.YtcphcaiiofeflaaDoor.GO
open Go.RowKit Go.Proofs.YtcphcaiiofeflaaDoorW.PrintWords Go.Proofs.YtcphcaiiofeflaaDoorW.PrintLast Go.Proofs.YtcphcaiiofeflaaDoorW.PrintMore
attribute [local go_sem] max2_int min2_int max_two min_two max_three min_three max_four min_four
set_option maxHeartbeats 8000000
set_option maxRecDepth 100000
set_option linter.unusedVariables false
set_option linter.unusedSimpArgs false
def r09_Ints.l0:Nat→List Int→List Int→Int→Option (Bool)
 | 0,_,_,_ => none
 | k+1,x0,x1,x5 => if x5 < (x0.length:Int) then (if 0≤x5 then (if x5 < (x1.length:Int) then (if (rd x0 x5) = (rd x1 x5) then (r09_Ints.l0 k x0 x1 (wrap64 (x5+1))) else (some false)) else (none)) else (none)) else (some true)
def r09_Ints.f (k:Nat) (l0:List Int) (l1:List Int):Option (Bool):=if (l0.length:Int) = (l1.length:Int) then (r09_Ints.l0 k l0 l1 0) else (some false)
theorem r09_Ints.calls (k:Nat) (A0:Option Addr) (c0:Nat) (l0:List Int) (A1:Option Addr) (c1:Nat) (l1:List Int) (r:Bool) (w:World) (hr0:Kd.C (Kd.int .i64) w A0 l0.length l0) (hc0:l0.length≤c0) (hr1:Kd.C (Kd.int .i64) w A1 l1.length l1) (hc1:l1.length≤c1) (h:r09_Ints.f k l0 l1 = some r) :
  Calls Tryd.prog 56 #[.slice A0 l0.length c0,.slice A1 l1.length c1] w fun e w' => e = .returned (.bool r)∧Drawn0 w w':=by
 have HR0:=AM hr0;have HC0:=AM hc0;clear hr0 hc0;have HR1:=AM hr1;have HC1:=AM hc1;clear hr1 hc1;have H:(if (l0.length:Int) = (l1.length:Int) then (r09_Ints.l0 k l0 l1 0) else (some false)) = some r:=h;clear h;by_cases c3:(l0.length:Int) = (l1.length:Int)
 ·rw [if_pos c3] at H;have c3b0:((l0.length:Int) == (l1.length:Int)) = true:=beq_iff_eq.mpr c3;have c3b1:((l0.length:Int) != (l1.length:Int)) = false:=bne_eq_false_iff_eq.mpr c3;have c3b2:(l0.length == l1.length) = true:=by first | simpa using c3 | (simp at c3 ⊢;omega)
  clear c3;have H':=AM H;clear H;go_enter Tryd.func56,Tryd.ntmps56;go_wp2
  repeat (go_quiet (fail);try go_wp2)
  go_loopg [5] k (fun kq v5 w' => ∃ (x5_1:Int),v5 = .int .i64 x5_1∧Aside0 (r09_Ints.l0 kq l0 l1 x5_1 = some r)∧Aside0 (kq≤k)∧Drawn0 w w')
  case atStart => exact ⟨(0),QD,H',⟨Nat.le_refl _⟩,DZ⟩
  case round =>
   clear H';try clear c1
   try clear p2
   try clear c3
   try clear c3b0
   try clear c3b1
   try clear c3b2
   obtain ⟨x5_1,rfl,HA,HK1,⟨m1,rfl⟩⟩:=hrel;cases gk with
   | zero => exact absurd HA.out (by simp [r09_Ints.l0])
   | succ k1 =>
    have H:=HA.out;clear HA;simp only [r09_Ints.l0] at H;by_cases c4:x5_1 < (l0.length:Int)
    ·rw [if_pos c4] at H;have c4b0:decide (x5_1 < (l0.length:Int)) = true:=decide_eq_true c4;clear c4;by_cases c5:0≤x5_1
     ·rw [if_pos c5] at H;have c5b0:decide (0≤x5_1) = true:=decide_eq_true c5;clear c5;by_cases c6:x5_1 < (l1.length:Int)
      ·rw [if_pos c6] at H;have c6b0:decide (x5_1 < (l1.length:Int)) = true:=decide_eq_true c6;clear c6;by_cases c7:(rd l0 x5_1) = (rd l1 x5_1)
       ·rw [if_pos c7] at H;have c7b0:((rd l0 x5_1) == (rd l1 x5_1)) = true:=beq_iff_eq.mpr c7;have c7b1:((rd l0 x5_1) != (rd l1 x5_1)) = false:=bne_eq_false_iff_eq.mpr c7;clear c7;have H':=AM H;clear H;have p319:0≤(x5_1:Int):=OD;have q319:x5_1 < (l0.length:Int):=OD;obtain ⟨ad319,e319,hx319_0⟩:=Kd.at_int HR0.out x5_1 p319 q319;cases e319
        replace p319:=eq_true p319;replace q319:=eq_true q319;have p320:0≤(x5_1:Int):=OD;have q320:x5_1 < (l1.length:Int):=OD;obtain ⟨ad320,e320,hx320_0⟩:=Kd.at_int HR1.out x5_1 p320 q320;cases e320
        replace p320:=eq_true p320;replace q320:=eq_true q320;go_wp2
        repeat (go_quiet (fail);try go_wp2)
        go_roundg k1
        case measure => have:=HK1.out;omega
        case rel => exact ⟨(wrap64 (x5_1+1)),QD,H',⟨by have:=HK1.out;omega⟩,DZ⟩
       ·rw [if_neg c7] at H;have c7b0:((rd l0 x5_1) == (rd l1 x5_1)) = false:=beq_eq_false_iff_ne.mpr c7;have c7b1:((rd l0 x5_1) != (rd l1 x5_1)) = true:=bne_iff_ne.mpr c7;obtain rfl:=Option.some.inj H;have p319:0≤(x5_1:Int):=OD;have q319:x5_1 < (l0.length:Int):=OD;obtain ⟨ad319,e319,hx319_0⟩:=Kd.at_int HR0.out x5_1 p319 q319;cases e319
        replace p319:=eq_true p319;replace q319:=eq_true q319;have p320:0≤(x5_1:Int):=OD;have q320:x5_1 < (l1.length:Int):=OD;obtain ⟨ad320,e320,hx320_0⟩:=Kd.at_int HR1.out x5_1 p320 q320;cases e320
        replace p320:=eq_true p320;replace q320:=eq_true q320;go_wp2
        repeat (go_quiet (fail);try go_wp2)
        go_ret;exact ⟨QD,DZ⟩
      ·rw [if_neg c6] at H;exact absurd H (by simp)
     ·rw [if_neg c5] at H;exact absurd H (by simp)
    ·rw [if_neg c4] at H;have c4b0:decide (x5_1 < (l0.length:Int)) = false:=decide_eq_false c4;clear c4;obtain rfl:=Option.some.inj H;go_wp2
     repeat (go_quiet (fail);try go_wp2)
     go_ret;exact ⟨QD,DZ⟩
 ·rw [if_neg c3] at H;have c3b0:((l0.length:Int) == (l1.length:Int)) = false:=beq_eq_false_iff_ne.mpr c3;have c3b1:((l0.length:Int) != (l1.length:Int)) = true:=bne_iff_ne.mpr c3;have c3b2:(l0.length == l1.length) = false:=by first | simpa using c3 | (simp at c3 ⊢;omega)
  obtain rfl:=Option.some.inj H;go_enter Tryd.func56,Tryd.ntmps56;go_wp2
  repeat (go_quiet (fail);try go_wp2)
  go_ret;exact ⟨QD,DZ⟩
section
open Go.Lib
def bA:ByteArray:=⟨#[97]⟩
def aN16:List S53:=[⟨1,[],[],[1,2]⟩,⟨5,[],[bA],[]⟩,⟨6,[9],[],[]⟩]
def aF16:List S53:=[⟨1,[],[],[2,1]⟩,⟨6,[9],[],[]⟩,⟨5,[],[bA],[]⟩]
theorem a16_typed:old_Typed.f 60 aN16 0 = some (0,0):=by decide +kernel
theorem a16_valid:old_Valid.f 60 aN16 0 16777216 16777216 16777216 16777216 16777216 = some (0,0):=by decide +kernel
theorem a16_is1:old_Is.f 60 aN16 0 = some true:=by decide +kernel
theorem a16_is2:old_Is.f 60 aF16 0 = some true:=by decide +kernel
theorem a16_is3:old_Is.f 60 [] 0 = some false:=by decide +kernel
theorem a16_ints:r09_Ints.f 60 [2,1] [2,1] = some true:=by decide +kernel
theorem a16_flat:old_Flat.f 60 aN16 0 = some (aF16,0,0):=by
 have h:((old_Flat.f 60 aN16 0).map fun r => (r.1.map (fun y => (y.f0,y.f1,y.f3)),r.2)) = some (aF16.map (fun y => (y.f0,y.f1,y.f3)),0,0)∧((old_Flat.f 60 aN16 0).map fun r => r.1.map fun y => y.f2) = some [[],[],[bA]]:=by decide +kernel
 rcases hc:old_Flat.f 60 aN16 0 with _ | ⟨r1,r2⟩
 ·rw [hc] at h;simp at h
 ·rw [hc] at h;simp only [Option.map_some,Option.some.injEq,Prod.mk.injEq] at h;obtain ⟨⟨h1,h2⟩,h3⟩:=h;match r1,h1,h3 with
  | [⟨a0,a1,a2,a3⟩,⟨b0,b1,b2,b3⟩,⟨c0,c1,c2,c3⟩],h1,h3 =>
   simp only [aF16,List.map_cons,List.map_nil,List.cons.injEq,Prod.mk.injEq,and_true] at h1;simp only [List.map_cons,List.map_nil,List.cons.injEq,and_true] at h3;obtain ⟨⟨rfl,rfl,rfl⟩,⟨rfl,rfl,rfl⟩,⟨rfl,rfl,rfl⟩⟩:=h1;obtain ⟨rfl,rfl,rfl⟩:=h3;rw [← h2];rfl
structure Five16 (w:World) (b:Nat):Prop where
 kids:w.heap[b]? = some (.cells #[.int .i64 1,.int .i64 2] 3 (0,0))
 texts:w.heap[b+1]? = some (.cells #[.string bA] 9 (0,0))
 ints:w.heap[b+1+1]? = some (.cells #[.int .i64 9] 2 (0,0))
 nodes:w.heap[b+1+1+1]? = some (.cells #[.int .i64 1,.slice none 0 0,.slice none 0 0,.slice (some ⟨b,0,none⟩) 2 2,.int .i64 5,.slice none 0 0,.slice (some ⟨b+1,0,none⟩) 1 1,.slice none 0 0,.int .i64 6,.slice (some ⟨b+1+1,0,none⟩) 1 1,.slice none 0 0,.slice none 0 0] 53 (0,0))
 box:w.heap[b+1+1+1+1]? = some (.cells #[.slice (some ⟨b+1+1+1,0,none⟩) 3 3,.int .i64 0] 24 (0,0))
theorem Five16.below {w w':World} {b:Nat} (h:Five16 w b) (hb:∀ k,k < w.heap.size→w'.heap[k]? = w.heap[k]?):Five16 w' b :=
 ⟨(hb _ (blk_lt h.kids)).trans h.kids,(hb _ (blk_lt h.texts)).trans h.texts,(hb _ (blk_lt h.ints)).trans h.ints,(hb _ (blk_lt h.nodes)).trans h.nodes,(hb _ (blk_lt h.box)).trans h.box⟩
theorem Five16.C {W:World} {b:Nat} (h:Five16 W b):Kd.C k53 W (some ⟨b+1+1+1,0,none⟩) aN16.length aN16:=by
 have hnI:Kd.C (Kd.int .i64) W none 0 []:=⟨rfl,by omega,fun h => absurd h (by omega)⟩;have hnS:Kd.C Kd.string W none 0 []:=⟨rfl,by omega,fun h => absurd h (by omega)⟩;have hk:Kd.C (Kd.int .i64) W (some ⟨b,0,none⟩) [1,2].length [1,2]:=⟨rfl,by simp,fun _ => ⟨⟨b,0,none⟩,rfl,fun j p hp => by
  match j,hp with
  | 0,hp => cases hp;exact ⟨[.int .i64 1],rfl,rfl,fun i u hu => by match i,hu with | 0,hu => cases hu;exact (blk_cell h.kids 0).trans rfl⟩
  | 1,hp => cases hp;exact ⟨[.int .i64 2],rfl,rfl,fun i u hu => by match i,hu with | 0,hu => cases hu;exact (blk_cell h.kids 1).trans rfl⟩⟩⟩
 have ht:Kd.C Kd.string W (some ⟨b+1,0,none⟩) [bA].length [bA]:=⟨rfl,by simp,fun _ => ⟨⟨b+1,0,none⟩,rfl,fun j p hp => by
  match j,hp with
  | 0,hp => cases hp;exact ⟨[.string bA],rfl,rfl,fun i u hu => by match i,hu with | 0,hu => cases hu;exact (blk_cell h.texts 0).trans rfl⟩⟩⟩
 have hi:Kd.C (Kd.int .i64) W (some ⟨b+1+1,0,none⟩) [9].length [9]:=⟨rfl,by simp,fun _ => ⟨⟨b+1+1,0,none⟩,rfl,fun j p hp => by
  match j,hp with
  | 0,hp => cases hp;exact ⟨[.int .i64 9],rfl,rfl,fun i u hu => by match i,hu with | 0,hu => cases hu;exact (blk_cell h.ints 0).trans rfl⟩⟩⟩
 refine ⟨rfl,by show 3≤9223372036854775807;omega,fun _ => ⟨⟨b+1+1+1,0,none⟩,rfl,fun j p hp => ?_⟩⟩;match j,hp with
 | 0,hp =>
  cases hp
  exact ⟨_,rfl,k53_mk W ⟨1,[],[],[1,2]⟩ (Nat.le_refl _) hnI (Nat.le_refl _) hnS (c3:=2) (by simp) hk,fun i u hu => by
   match i,hu with
   | 0,hu => cases hu;exact (blk_cell h.nodes 0).trans rfl
   | 1,hu => cases hu;exact (blk_cell h.nodes 1).trans rfl
   | 2,hu => cases hu;exact (blk_cell h.nodes 2).trans rfl
   | 3,hu => cases hu;exact (blk_cell h.nodes 3).trans rfl⟩
 | 1,hp =>
  cases hp
  exact ⟨_,rfl,k53_mk W ⟨5,[],[bA],[]⟩ (Nat.le_refl _) hnI (c2:=1) (by simp) ht (Nat.le_refl _) hnI,fun i u hu => by
   match i,hu with
   | 0,hu => cases hu;exact (blk_cell h.nodes 4).trans rfl
   | 1,hu => cases hu;exact (blk_cell h.nodes 5).trans rfl
   | 2,hu => cases hu;exact (blk_cell h.nodes 6).trans rfl
   | 3,hu => cases hu;exact (blk_cell h.nodes 7).trans rfl⟩
 | 2,hp =>
  cases hp
  exact ⟨_,rfl,k53_mk W ⟨6,[9],[],[]⟩ (c1:=1) (by simp) hi (Nat.le_refl _) hnS (Nat.le_refl _) hnI,fun i u hu => by
   match i,hu with
   | 0,hu => cases hu;exact (blk_cell h.nodes 8).trans rfl
   | 1,hu => cases hu;exact (blk_cell h.nodes 9).trans rfl
   | 2,hu => cases hu;exact (blk_cell h.nodes 10).trans rfl
   | 3,hu => cases hu;exact (blk_cell h.nodes 11).trans rfl⟩
theorem lit_C {W:World} {b:Nat} {l:List Int} {n:Nat} (hn:n = l.length) (hm:n≤1000) (h:W.heap[b]? = some (.cells (l.map (Value.int .i64)).toArray 3 (0,0))):Kd.C (Kd.int .i64) W (some ⟨b,0,none⟩) n l:=by
 subst hn;refine ⟨rfl,by omega,fun _ => ⟨⟨b,0,none⟩,rfl,fun j p hp => ⟨[.int .i64 p],rfl,rfl,fun i u hu => ?_⟩⟩⟩;match i,hu with
 | 0,hu =>
  cases hu
  have:=blk_cell h j;rw [List.getElem?_toArray,List.getElem?_map,hp] at this;have e:((⟨b,0,none⟩:Addr).add (j * (Kd.int .i64).sz+0)) = ⟨b,j,none⟩:=by rw [Nat.add_zero,show (Kd.int .i64).sz = 1 from rfl,Nat.mul_one];cases j <;> simp [Addr.add]
  rw [e];simpa using this
theorem awake16_calls (w:World) (ht:∀ w',Below w.heap.size w w'→Go.Lib.Utf8Tabs 0 1 w'):Calls Tryd.prog 28 #[] w fun e w' => e = .returned (.bool true)∧Below w.heap.size w w':=by
 have HT:=Lib.hid ht;clear ht;go_enter Tryd.func28,Tryd.ntmps28;go_upto_region 2 with (fail)
 have z1:(w.alloc (.cells #[.int .i64 1,.int .i64 2] 3)).heap.size = w.heap.size+1:=by simp
 have z2:((w.alloc (.cells #[.int .i64 1,.int .i64 2] 3)).alloc (.cells #[.string ⟨#[97]⟩] 9)).heap.size = w.heap.size+1+1:=by simp
 have z3:(((w.alloc (.cells #[.int .i64 1,.int .i64 2] 3)).alloc (.cells #[.string ⟨#[97]⟩] 9)).alloc (.cells #[.int .i64 9] 2)).heap.size = w.heap.size+1+1+1:=by simp
 have z4:((((w.alloc (.cells #[.int .i64 1,.int .i64 2] 3)).alloc (.cells #[.string ⟨#[97]⟩] 9)).alloc (.cells #[.int .i64 9] 2)).alloc (.cells #[.int .i64 1,.slice none 0 0,.slice none 0 0,.slice (some ⟨w.heap.size,0,none⟩) 2 2,.int .i64 5,.slice none 0 0,.slice (some ⟨w.heap.size+1,0,none⟩) 1 1,.slice none 0 0,.int .i64 6,.slice (some ⟨w.heap.size+1+1,0,none⟩) 1 1,.slice none 0 0,.slice none 0 0] 53)).heap.size = w.heap.size+1+1+1+1:=by simp
 have h1:Five16 (((((w.alloc (.cells #[.int .i64 1,.int .i64 2] 3)).alloc (.cells #[.string ⟨#[97]⟩] 9)).alloc (.cells #[.int .i64 9] 2)).alloc (.cells #[.int .i64 1,.slice none 0 0,.slice none 0 0,.slice (some ⟨w.heap.size,0,none⟩) 2 2,.int .i64 5,.slice none 0 0,.slice (some ⟨w.heap.size+1,0,none⟩) 1 1,.slice none 0 0,.int .i64 6,.slice (some ⟨w.heap.size+1+1,0,none⟩) 1 1,.slice none 0 0,.slice none 0 0] 53)).alloc (.cells #[.slice (some ⟨w.heap.size+1+1+1,0,none⟩) 3 3,.int .i64 0] 24)) w.heap.size:=by
  refine ⟨blk_alloc (blk_alloc (blk_alloc (blk_alloc (heap_alloc_new w _) _) _) _) _,blk_alloc (blk_alloc (blk_alloc ?_ _) _) _,blk_alloc (blk_alloc ?_ _) _,blk_alloc ?_ _,?_⟩
  ·have:=heap_alloc_new (w.alloc (.cells #[.int .i64 1,.int .i64 2] 3)) (.cells #[.string ⟨#[97]⟩] 9);rw [z1] at this;exact this
  ·have:=heap_alloc_new ((w.alloc (.cells #[.int .i64 1,.int .i64 2] 3)).alloc (.cells #[.string ⟨#[97]⟩] 9)) (.cells #[.int .i64 9] 2);rw [z2] at this;exact this
  ·have:=heap_alloc_new (((w.alloc (.cells #[.int .i64 1,.int .i64 2] 3)).alloc (.cells #[.string ⟨#[97]⟩] 9)).alloc (.cells #[.int .i64 9] 2)) (.cells #[.int .i64 1,.slice none 0 0,.slice none 0 0,.slice (some ⟨w.heap.size,0,none⟩) 2 2,.int .i64 5,.slice none 0 0,.slice (some ⟨w.heap.size+1,0,none⟩) 1 1,.slice none 0 0,.int .i64 6,.slice (some ⟨w.heap.size+1+1,0,none⟩) 1 1,.slice none 0 0,.slice none 0 0] 53);rw [z3] at this;exact this
  ·have:=heap_alloc_new ((((w.alloc (.cells #[.int .i64 1,.int .i64 2] 3)).alloc (.cells #[.string ⟨#[97]⟩] 9)).alloc (.cells #[.int .i64 9] 2)).alloc (.cells #[.int .i64 1,.slice none 0 0,.slice none 0 0,.slice (some ⟨w.heap.size,0,none⟩) 2 2,.int .i64 5,.slice none 0 0,.slice (some ⟨w.heap.size+1,0,none⟩) 1 1,.slice none 0 0,.int .i64 6,.slice (some ⟨w.heap.size+1+1,0,none⟩) 1 1,.slice none 0 0,.slice none 0 0] 53)) (.cells #[.slice (some ⟨w.heap.size+1+1+1,0,none⟩) 3 3,.int .i64 0] 24);rw [z4] at this;exact this
 have hB1:Below w.heap.size w (((((w.alloc (.cells #[.int .i64 1,.int .i64 2] 3)).alloc (.cells #[.string ⟨#[97]⟩] 9)).alloc (.cells #[.int .i64 9] 2)).alloc (.cells #[.int .i64 1,.slice none 0 0,.slice none 0 0,.slice (some ⟨w.heap.size,0,none⟩) 2 2,.int .i64 5,.slice none 0 0,.slice (some ⟨w.heap.size+1,0,none⟩) 1 1,.slice none 0 0,.int .i64 6,.slice (some ⟨w.heap.size+1+1,0,none⟩) 1 1,.slice none 0 0,.slice none 0 0] 53)).alloc (.cells #[.slice (some ⟨w.heap.size+1+1+1,0,none⟩) 3 3,.int .i64 0] 24)):=(((((Below.refl _ _).alloc (Nat.le_refl _) _).alloc (by simp) _).alloc (by simp;omega) _).alloc (by simp;omega) _).alloc (by simp;omega) _;clear z1 z2 z3 z4;generalize (((((w.alloc (.cells #[.int .i64 1,.int .i64 2] 3)).alloc (.cells #[.string ⟨#[97]⟩] 9)).alloc (.cells #[.int .i64 9] 2)).alloc (.cells #[.int .i64 1,.slice none 0 0,.slice none 0 0,.slice (some ⟨w.heap.size,0,none⟩) 2 2,.int .i64 5,.slice none 0 0,.slice (some ⟨w.heap.size+1,0,none⟩) 1 1,.slice none 0 0,.int .i64 6,.slice (some ⟨w.heap.size+1+1,0,none⟩) 1 1,.slice none 0 0,.slice none 0 0] 53)).alloc (.cells #[.slice (some ⟨w.heap.size+1+1+1,0,none⟩) 3 3,.int .i64 0] 24)) = w5 at h1 hB1 ⊢;have H1:=Lib.hid h1;have HB1:=Lib.hid hB1;have q0:w5.cell? ⟨w.heap.size+1+1+1+1,0,none⟩ = some (.slice (some ⟨w.heap.size+1+1+1,0,none⟩) 3 3):=(blk_cell h1.box 0).trans rfl;have q1:w5.cell? ⟨w.heap.size+1+1+1+1,1,none⟩ = some (.int .i64 0):=(blk_cell h1.box 1).trans rfl;clear h1 hB1;go_wp2_with (fail)
 refine (old_Typed.calls 60 (some ⟨w.heap.size+1+1+1,0,none⟩) 3 aN16 0 0 0 w5 (fun w' hb => HT.out w' (below_step HB1.out hb)) H1.out.C (Nat.le_refl 3) a16_typed).mono ?_;rintro e w6 ⟨rfl,hb6⟩;have H6:=Lib.hid (H1.out.below hb6.block);have HB6:=Lib.hid (below_step HB1.out hb6);clear hb6 q0 q1;have q0:w6.cell? ⟨w.heap.size+1+1+1+1,0,none⟩ = some (.slice (some ⟨w.heap.size+1+1+1,0,none⟩) 3 3):=(blk_cell H6.out.box 0).trans rfl;have q1:w6.cell? ⟨w.heap.size+1+1+1+1,1,none⟩ = some (.int .i64 0):=(blk_cell H6.out.box 1).trans rfl;go_wp2_with (fail)
 go_region_held3 (fun w' => w'.cell? ⟨w.heap.size+1+1+1+1,0,none⟩ = some (.slice (some ⟨w.heap.size+1+1+1,0,none⟩) 3 3)∧w'.cell? ⟨w.heap.size+1+1+1+1,1,none⟩ = some (.int .i64 0)) (go_keep)
  ((first
   | (go_at_call 55;refine (r12_Wide.calls 16777216 16777216 16777216 16777216 16777216 _ rfl).mono ?_;rintro e w7 ⟨rfl,hb7⟩;have H7:=Lib.hid (Five16.below (w:=w6) (w':=w7) H6.out hb7.block);have HB7:=Lib.hid (below_step (by repeat (first | (with_reducible first | exact HB6.out | apply pw_below_drewN | apply below_drew1) | exact HB6.out)) hb7);have r0:w7.cell? ⟨w.heap.size+1+1+1+1,0,none⟩ = some (.slice (some ⟨w.heap.size+1+1+1,0,none⟩) 3 3):=(blk_cell H7.out.box 0).trans rfl;have r1:w7.cell? ⟨w.heap.size+1+1+1+1,1,none⟩ = some (.int .i64 0):=(blk_cell H7.out.box 1).trans rfl;clear hb7)
   | (go_at_call 29;refine (old_Valid.calls 60 (some ⟨w.heap.size+1+1+1,0,none⟩) 3 aN16 0 16777216 16777216 16777216 16777216 16777216 0 0 _ (fun w' hb => HT.out w' (below_step (by repeat (first | (with_reducible first | exact HB7.out | apply pw_below_drewN | apply below_drew1) | exact HB7.out)) hb)) (Five16.C (Five16.below (w:=w7) H7.out (fun _ _ => rfl))) (Nat.le_refl 3) a16_valid).mono ?_;rintro e w8 ⟨rfl,hb8⟩;have H8:=Lib.hid (Five16.below (w:=w7) (w':=w8) H7.out hb8.block);have HB8:=Lib.hid (below_step (by repeat (first | (with_reducible first | exact HB7.out | apply pw_below_drewN | apply below_drew1) | exact HB7.out)) hb8);have s0:w8.cell? ⟨w.heap.size+1+1+1+1,0,none⟩ = some (.slice (some ⟨w.heap.size+1+1+1,0,none⟩) 3 3):=(blk_cell H8.out.box 0).trans rfl;have s1:w8.cell? ⟨w.heap.size+1+1+1+1,1,none⟩ = some (.int .i64 0):=(blk_cell H8.out.box 1).trans rfl;clear hb8)))
 all_goals
  rename_i hS9;clear hS9;go_wp2_with (fail)
  refine (old_Flat.calls 60 (some ⟨w.heap.size+1+1+1,0,none⟩) 3 aN16 0 aF16 0 0 _ (Five16.C (Five16.below (w:=w8) H8.out (fun _ _ => rfl))) (Nat.le_refl 3) a16_flat).mono ?_;rintro e w9 ⟨v9,rfl,hS,hb9⟩;have hb98:=below_step (show Below w8.heap.size w8 w8 from Below.refl _ _) (show Below w8.heap.size w8 w9 from ⟨hb9.os,hb9.tape,hb9.output,hb9.size,hb9.block⟩);have H9:=Lib.hid (Five16.below (w:=w8) (w':=w9) H8.out hb98.block);have HB9:=Lib.hid (below_step HB8.out hb98);obtain ⟨g9,c9,hv9,hgb9,hgl9,_⟩:=Kd.S_form hS (show 0 < aF16.length by decide);have hv9':v9 = .slice (some ⟨g9,0,none⟩) 3 c9:=hv9;clear hv9;subst hv9';obtain ⟨hx9,hc9,hC9⟩:=Kd.S_reads' hS;clear hx9;have HC9:=Lib.hid hC9;have hc9':3≤c9:=hc9;clear hS hb9 hb98 hC9 hc9;go_upto_region 5 with (fail)
  have hn10:=heap_alloc_new w9 (.cells #[.slice (some ⟨g9,0,none⟩) 3 c9,.int .i64 0] 24);have hb10:Below w9.heap.size w9 (w9.alloc (.cells #[.slice (some ⟨g9,0,none⟩) 3 c9,.int .i64 0] 24)):=(Below.refl _ _).alloc (Nat.le_refl _) _;generalize w9.alloc (.cells #[.slice (some ⟨g9,0,none⟩) 3 c9,.int .i64 0] 24) = w10 at hn10 hb10 ⊢;have H10:=Lib.hid (H9.out.below hb10.block);have HB10:=Lib.hid (below_step HB9.out hb10);have HC10:=Lib.hid (Kd.C_below HC9.out hb10);have HN10:=Lib.hid hn10;have p0:w10.cell? ⟨w.heap.size+1+1+1+1,0,none⟩ = some (.slice (some ⟨w.heap.size+1+1+1,0,none⟩) 3 3):=(blk_cell H10.out.box 0).trans rfl;have p1:w10.cell? ⟨w.heap.size+1+1+1+1,1,none⟩ = some (.int .i64 0):=(blk_cell H10.out.box 1).trans rfl;clear hn10 hb10;go_wp2_with (fail)
  refine (old_Is.calls 60 (some ⟨w.heap.size+1+1+1,0,none⟩) 3 aN16 0 true w10 H10.out.C (Nat.le_refl 3) a16_is1).mono ?_;rintro e w11 ⟨rfl,hb11⟩;have HB11:=Lib.hid (below_step HB10.out hb11);have HC11:=Lib.hid (Kd.C_below HC10.out hb11);have HN11:=Lib.hid (blk_below HN10.out hb11);clear p0 p1 hb11;have p0:w11.cell? ⟨w9.heap.size,0,none⟩ = some (.slice (some ⟨g9,0,none⟩) 3 c9):=(blk_cell HN11.out 0).trans rfl;have p1:w11.cell? ⟨w9.heap.size,1,none⟩ = some (.int .i64 0):=(blk_cell HN11.out 1).trans rfl;go_wp2_with (fail)
  refine (old_Is.calls 60 (some ⟨g9,0,none⟩) c9 aF16 0 true w11 HC11.out hc9' a16_is2).mono ?_;rintro e w12 ⟨rfl,hb12⟩;have HB12:=Lib.hid (below_step HB11.out hb12);have hC12:=Kd.C_below HC11.out hb12;have HN12:=Lib.hid (blk_below HN11.out hb12);clear p0 p1 hb12;have p0:w12.cell? ⟨w9.heap.size,0,none⟩ = some (.slice (some ⟨g9,0,none⟩) 3 c9):=(blk_cell HN12.out 0).trans rfl;have p1:w12.cell? ⟨w9.heap.size,1,none⟩ = some (.int .i64 0):=(blk_cell HN12.out 1).trans rfl;obtain ⟨ad,_,_,_,_,A3,c3,ea,_,_,_,hx2,_,_,_,_,hl3,hi3⟩:=at_T53 hC12 0 (by omega) (by show (0:Int) < 3;omega);cases ea
  obtain ⟨ad,_,_,_,_,_,_,ea,hx1,_,_,_,_⟩:=at_T53 hC12 1 (by omega) (by show (1:Int) < 3;omega);cases ea
  have n1:w12.cell? ⟨g9,4,none⟩ = some (.int .i64 6):=hx1;have n2:w12.cell? ⟨g9,3,none⟩ = some (.slice A3 2 c3):=hx2;have hl3':2≤c3:=hl3;have HI3:Hid (Kd.C (Kd.int .i64) w12 A3 2 [2,1]):=Lib.hid hi3;clear hx1 hx2 hl3 hi3 hC12;go_wp2_with (fail)
  have hb13:Below w12.heap.size w12 (w12.alloc (.cells #[.int .i64 2,.int .i64 1] 3)):=(Below.refl _ _).alloc (Nat.le_refl _) _;refine (r09_Ints.calls 60 A3 c3 [2,1] (some ⟨w12.heap.size,0,none⟩) 2 [2,1] true _ (Kd.C_below HI3.out hb13) hl3' (lit_C (n:=2) (l:=[2,1]) rfl (by omega) (heap_alloc_new w12 _)) (by simp) a16_ints).mono ?_;rintro e w14 ⟨rfl,hd14⟩;have HB14:=Lib.hid (below_step HB12.out (below_step hb13 hd14.below));clear hd14 hb13 p0 p1 n1 n2;have hn0:Kd.C k53 w14 none 0 []:=⟨rfl,by omega,fun h => absurd h (by omega)⟩;go_wp2_with (fail)
  refine (old_Is.calls 60 none 0 [] 0 false w14 hn0 (Nat.le_refl 0) a16_is3).mono ?_;rintro e w15 ⟨rfl,hb15⟩;have HB15:=Lib.hid (below_step HB14.out hb15);clear hb15 hn0;go_wp2_with (fail)
  go_ret;exact ⟨rfl,HB15.out⟩
end
def w16_awake.f (k:Nat):Option Bool:=some true
theorem w16_awake.calls (k:Nat) (r:Bool) (w:World) (ht_:∀ w',Below w.heap.size w w'→Go.Lib.Utf8Tabs 0 1 w') (h:w16_awake.f k = some r) :
  Calls Tryd.prog 28 #[] w fun e w' => e = .returned (.bool r)∧Below w.heap.size w w':=by
 obtain rfl:=Option.some.inj h;exact awake16_calls w ht_
def r09_Place.f (l0_0:List (S53)) (a0_1:Int) (a1:Int):Option (Bool):=if a1 ≥ 0 then (some (decide (a1 < (l0_0.length:Int)))) else (some false)
theorem r09_Place.calls (A0_0:Option Addr) (c0_0:Nat) (l0_0:List (S53)) (a0_1:Int) (a1:Int) (r:Bool) (w:World) (hr0_0:Kd.C k53 w A0_0 l0_0.length l0_0) (hc0_0:l0_0.length≤c0_0) (h:r09_Place.f l0_0 a0_1 a1 = some r) :
  Calls Tryd.prog 59 #[.agg #[.slice A0_0 l0_0.length c0_0,.int .i64 a0_1],.int .i64 a1] w fun e w' => e = .returned (.bool r)∧Below w.heap.size w w':=by
 have hu24:=Tryd.underlying24;have HR0_0:=AM hr0_0;have HC0_0:=AM hc0_0;clear hr0_0 hc0_0;have HB:=AM (Below.refl w.heap.size w);have H:(if a1 ≥ 0 then (some (decide (a1 < (l0_0.length:Int)))) else (some false)) = some r:=h;clear h;by_cases c3:a1 ≥ 0
 ·rw [if_pos c3] at H;have c3b0:decide (0≤a1) = true:=decide_eq_true c3;clear c3;obtain rfl:=Option.some.inj H;go_enter Tryd.func59,Tryd.ntmps59;go_wp2_with (first | ((with_reducible refine gate_dst (N:=2) rfl ?_);refine boxE 2 #[.slice A0_0 l0_0.length c0_0,.int .i64 a0_1] 24 ?_;intro gb321 hg w4 hbox hb;have BK321:=AM (hbox);have GW321:=GW HB hg;have GE321:=GW HB hg;replace HB:=BS HB hb;clear hb hbox hg;have hcz5_0:=BC BK321 0 (.slice A0_0 l0_0.length c0_0) rfl;have hcz5_1:=BC BK321 1 (.int .i64 a0_1) rfl;have hfz5_0:=BF BK321 0;have hfz5_1:=BF BK321 1))
  go_ret;exact RT (BB HB)
 ·rw [if_neg c3] at H;have c3b0:decide (0≤a1) = false:=decide_eq_false c3;clear c3;obtain rfl:=Option.some.inj H;go_enter Tryd.func59,Tryd.ntmps59;go_wp2_with (first | ((with_reducible refine gate_dst (N:=2) rfl ?_);refine boxE 2 #[.slice A0_0 l0_0.length c0_0,.int .i64 a0_1] 24 ?_;intro gb321 hg w6 hbox hb;have BK321:=AM (hbox);have GW321:=GW HB hg;have GE321:=GW HB hg;replace HB:=BS HB hb;clear hb hbox hg))
  go_ret;exact RT (BB HB)
end Go.Proofs.YtcphcaiiofeflaaDoor.GO
