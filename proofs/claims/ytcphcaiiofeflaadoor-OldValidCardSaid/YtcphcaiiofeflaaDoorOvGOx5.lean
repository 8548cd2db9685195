
import Derived.Test.YtcphcaiiofeflaaDoorOvGOx0
namespace Go.Proofs.YtcphcaiiofeflaaDoor.GO
open Go.RowKit Go.Proofs.YtcphcaiiofeflaaDoorW.PrintWords Go.Proofs.YtcphcaiiofeflaaDoorW.PrintLast Go.Proofs.YtcphcaiiofeflaaDoorW.PrintMore
attribute [local go_sem] max2_int min2_int max_two min_two max_three min_three max_four min_four
set_option linter.unusedVariables false
set_option linter.unusedSimpArgs false
def r05_Char.j0:Nat→Int→Bool→Option (ByteArray)
 | 0,_,_ => none
 | k+1,x0,x17 => if x17 = true then (some (⟨#[]⟩:ByteArray)) else (if (wrap64 (x0)) < 128 then (some (strOfNums (([(wrap64 (x0)) % 256]:List Int)))) else (if (wrap64 (x0)) < 2048 then (some (strOfNums (([(wrap64 (192+(wrap64 (Int.tdiv (wrap64 (x0)) 64)))) % 256,(wrap64 (128+(Int.tmod (wrap64 (x0)) 64))) % 256]:List Int)))) else (if (wrap64 (x0)) < 65536 then (some (strOfNums (([(wrap64 (224+(wrap64 (Int.tdiv (wrap64 (x0)) 4096)))) % 256,(wrap64 (128+(Int.tmod (wrap64 (Int.tdiv (wrap64 (x0)) 64)) 64))) % 256,(wrap64 (128+(Int.tmod (wrap64 (x0)) 64))) % 256]:List Int)))) else (some (strOfNums (([(wrap64 (240+(wrap64 (Int.tdiv (wrap64 (x0)) 262144)))) % 256,(wrap64 (128+(Int.tmod (wrap64 (Int.tdiv (wrap64 (x0)) 4096)) 64))) % 256,(wrap64 (128+(Int.tmod (wrap64 (Int.tdiv (wrap64 (x0)) 64)) 64))) % 256,(wrap64 (128+(Int.tmod (wrap64 (x0)) 64))) % 256]:List Int)))))))
def r05_Char.f (k:Nat) (a0:Int):Option (ByteArray):=if a0 < 0 then (r05_Char.j0 k a0 true) else (if a0 > 1114111 then (r05_Char.j0 k a0 true) else (if a0 ≥ 55296 then (r05_Char.j0 k a0 (decide (a0≤57343))) else (r05_Char.j0 k a0 false)))
set_option maxHeartbeats 8000000 in
set_option maxRecDepth 100000 in
theorem r05_Char.calls (k:Nat) (a0:Int) (r:ByteArray) (w:World) (h:r05_Char.f k a0 = some r) :
  Calls Tryd.prog 101 #[.int .i32 a0] w fun e w' => e = .returned (.string r)∧Below w.heap.size w w':=by
 have HB:=AM (Below.refl w.heap.size w);have H:(if a0 < 0 then (r05_Char.j0 k a0 true) else (if a0 > 1114111 then (r05_Char.j0 k a0 true) else (if a0 ≥ 55296 then (r05_Char.j0 k a0 (decide (a0≤57343))) else (r05_Char.j0 k a0 false)))) = some r:=h;clear h;have HC2:=AM H;clear H;go_enter Tryd.func101,Tryd.ntmps101;go_upto_region 1 with (fail)
 go_cut [17] (fun v17 wc => ∃ (kq:Nat) (x17_1:Bool),v17 = .bool x17_1∧Aside0 (r05_Char.j0 kq a0 x17_1 = some r)∧Aside0 (kq≤k)∧Aside0 (Below w.heap.size w wc))
 case first =>
  have H:=HC2.out;clear HC2;by_cases c3:a0 < 0
  ·rw [if_pos c3] at H;have c3b0:decide (a0 < 0) = true:=decide_eq_true c3;clear c3;(first | rw [c3b0] | (simp only [i64_w,i32_w];rw [c3b0]) | skip)
   have H':=AM H;clear H;go_wp2
   go_meet
   case rel => exact ⟨_,(true),QD,H',⟨by first | omega | exact Nat.le_refl _⟩,⟨BB HB⟩⟩
  ·rw [if_neg c3] at H;have c3b0:decide (a0 < 0) = false:=decide_eq_false c3;clear c3;(first | rw [c3b0] | (simp only [i64_w,i32_w];rw [c3b0]) | skip)
   by_cases c4:a0 > 1114111
   ·rw [if_pos c4] at H;have c4b0:decide (1114111 < a0) = true:=decide_eq_true c4;clear c4;have H':=AM H;clear H;go_wp2
    go_meet
    case rel => exact ⟨_,(true),QD,H',⟨by first | omega | exact Nat.le_refl _⟩,⟨BB HB⟩⟩
   ·rw [if_neg c4] at H;have c4b0:decide (1114111 < a0) = false:=decide_eq_false c4;clear c4;by_cases c5:a0 ≥ 55296
    ·rw [if_pos c5] at H;have c5b0:decide (55296≤a0) = true:=decide_eq_true c5;clear c5;have H':=AM H;clear H;go_wp2
     go_meet
     case rel => exact ⟨_,(decide (a0≤57343)),QD,H',⟨by first | omega | exact Nat.le_refl _⟩,⟨BB HB⟩⟩
    ·rw [if_neg c5] at H;have c5b0:decide (55296≤a0) = false:=decide_eq_false c5;clear c5;have H':=AM H;clear H;go_wp2
     go_meet
     case rel => exact ⟨_,(false),QD,H',⟨by first | omega | exact Nat.le_refl _⟩,⟨BB HB⟩⟩
 case rest =>
  clear HC2;try clear c1
  try clear p2
  try clear c3
  try clear c3b0
  try clear c4
  try clear c4b0
  try clear c5
  try clear c5b0
  obtain ⟨kq,x17_1,rfl,HA,HJ1,HB⟩:=hcut;cases kq with
  | zero => exact absurd HA.out (by simp [r05_Char.j0])
  | succ kj1 =>
   have H:=HA.out;clear HA;simp only [r05_Char.j0] at H;by_cases c6:x17_1 = true
   ·subst c6;have H1:(some (⟨#[]⟩:ByteArray)) = some r:=by rw [if_pos rfl] at H;exact H
    clear H;have H:=H1;clear H1;obtain rfl:=Option.some.inj H;go_wp2
    go_ret;exact RT (BB HB)
   ·replace c6:=Bool.eq_false_iff.mpr c6;subst c6;have H1:(if (wrap64 (a0)) < 128 then (some (strOfNums (([(wrap64 (a0)) % 256]:List Int)))) else (if (wrap64 (a0)) < 2048 then (some (strOfNums (([(wrap64 (192+(wrap64 (Int.tdiv (wrap64 (a0)) 64)))) % 256,(wrap64 (128+(Int.tmod (wrap64 (a0)) 64))) % 256]:List Int)))) else (if (wrap64 (a0)) < 65536 then (some (strOfNums (([(wrap64 (224+(wrap64 (Int.tdiv (wrap64 (a0)) 4096)))) % 256,(wrap64 (128+(Int.tmod (wrap64 (Int.tdiv (wrap64 (a0)) 64)) 64))) % 256,(wrap64 (128+(Int.tmod (wrap64 (a0)) 64))) % 256]:List Int)))) else (some (strOfNums (([(wrap64 (240+(wrap64 (Int.tdiv (wrap64 (a0)) 262144)))) % 256,(wrap64 (128+(Int.tmod (wrap64 (Int.tdiv (wrap64 (a0)) 4096)) 64))) % 256,(wrap64 (128+(Int.tmod (wrap64 (Int.tdiv (wrap64 (a0)) 64)) 64))) % 256,(wrap64 (128+(Int.tmod (wrap64 (a0)) 64))) % 256]:List Int))))))) = some r:=by rw [if_neg (show ¬ (false = true) by decide)] at H;exact H
    clear H;have H:=H1;clear H1;by_cases c7:(wrap64 (a0)) < 128
    ·rw [if_pos c7] at H;have c7b0:decide ((wrap64 (a0)) < 128) = true:=decide_eq_true c7;clear c7;obtain ⟨y155,hy155⟩:∃ y_:List Int,y_ = (([(wrap64 (a0)) % 256]:List Int)):=⟨_,rfl⟩;replace H:(some (strOfNums y155)) = some r:=QH hy155 H
     have Ny155:=AM hy155;clear hy155;obtain rfl:=Option.some.inj H;go_wp2_with (first | ((with_reducible refine gate_dst (N:=24) rfl ?_);refine Kd.R_lit (Kd.int .u8) _ 5 ?hg (N:=24) ?hd (xs:=([(wrap64 (a0)) % 256]:List Int)) (inner:=[.int .u8 ((wrap64 (a0)) % 256)]) (ok:=fun _ => True) (okp:=fun _ => True) ?hr ?hp (fun _ hk => hk) trivial (Below.refl _ _) (Nat.le_refl _) (by simp) ?_;(case hd => rfl);(case hg => rfl);(case hr => first | (go_simp;done) | (go_simp;rfl));(case hp => exact (Reps.one (show Kd.M (Kd.int .u8) _ _ _ ((wrap64 (a0)) % 256) [.int .u8 ((wrap64 (a0)) % 256)] from rfl) (Reps.none _ _)));intro v156 w8 ho9 hb hg_ hnew_;clear hg_ hnew_;(first | rw [← Ny155.out] at ho9 | (simp only [Int.reduceToNat] at ho9;rw [← Ny155.out] at ho9));have HO157:=AM (Kd.R_lower ho9 (below_size (BB HB)));replace HB:=BS HB hb;clear hb ho9;have hcv10:=own_string (P:=Tryd.prog) Tryd.underlying132 Tryd.underlying5 Tryd.underlying9 (Kd.own_of_R HO157.out)))
     go_ret;exact RT (BB HB)
    ·rw [if_neg c7] at H;have c7b0:decide ((wrap64 (a0)) < 128) = false:=decide_eq_false c7;clear c7;by_cases c11:(wrap64 (a0)) < 2048
     ·rw [if_pos c11] at H;have c11b0:decide ((wrap64 (a0)) < 2048) = true:=decide_eq_true c11;clear c11;obtain ⟨y158,hy158⟩:∃ y_:List Int,y_ = (([(wrap64 (192+(wrap64 (Int.tdiv (wrap64 (a0)) 64)))) % 256,(wrap64 (128+(Int.tmod (wrap64 (a0)) 64))) % 256]:List Int)):=⟨_,rfl⟩;replace H:(some (strOfNums y158)) = some r:=QH hy158 H
      have Ny158:=AM hy158;clear hy158;obtain rfl:=Option.some.inj H;go_wp2_with (first | ((with_reducible refine gate_dst (N:=36) rfl ?_);refine Kd.R_lit (Kd.int .u8) _ 5 ?hg (N:=36) ?hd (xs:=([(wrap64 (192+(wrap64 (Int.tdiv (wrap64 (a0)) 64)))) % 256,(wrap64 (128+(Int.tmod (wrap64 (a0)) 64))) % 256]:List Int)) (inner:=[.int .u8 ((wrap64 (192+(wrap64 (Int.tdiv (wrap64 (a0)) 64)))) % 256),.int .u8 ((wrap64 (128+(Int.tmod (wrap64 (a0)) 64))) % 256)]) (ok:=fun _ => True) (okp:=fun _ => True) ?hr ?hp (fun _ hk => hk) trivial (Below.refl _ _) (Nat.le_refl _) (by simp) ?_;(case hd => rfl);(case hg => rfl);(case hr => first | (go_simp;done) | (go_simp;rfl));(case hp => exact (Reps.one (show Kd.M (Kd.int .u8) _ _ _ ((wrap64 (192+(wrap64 (Int.tdiv (wrap64 (a0)) 64)))) % 256) [.int .u8 ((wrap64 (192+(wrap64 (Int.tdiv (wrap64 (a0)) 64)))) % 256)] from rfl) (Reps.one (show Kd.M (Kd.int .u8) _ _ _ ((wrap64 (128+(Int.tmod (wrap64 (a0)) 64))) % 256) [.int .u8 ((wrap64 (128+(Int.tmod (wrap64 (a0)) 64))) % 256)] from rfl) (Reps.none _ _))));intro v159 w12 ho13 hb hg_ hnew_;clear hg_ hnew_;(first | rw [← Ny158.out] at ho13 | (simp only [Int.reduceToNat] at ho13;rw [← Ny158.out] at ho13));have HO160:=AM (Kd.R_lower ho13 (below_size (BB HB)));replace HB:=BS HB hb;clear hb ho13;have hcv14:=own_string (P:=Tryd.prog) Tryd.underlying132 Tryd.underlying5 Tryd.underlying9 (Kd.own_of_R HO160.out)))
      go_ret;exact RT (BB HB)
     ·rw [if_neg c11] at H;have c11b0:decide ((wrap64 (a0)) < 2048) = false:=decide_eq_false c11;clear c11;by_cases c15:(wrap64 (a0)) < 65536
      ·rw [if_pos c15] at H;have c15b0:decide ((wrap64 (a0)) < 65536) = true:=decide_eq_true c15;clear c15;obtain ⟨y161,hy161⟩:∃ y_:List Int,y_ = (([(wrap64 (224+(wrap64 (Int.tdiv (wrap64 (a0)) 4096)))) % 256,(wrap64 (128+(Int.tmod (wrap64 (Int.tdiv (wrap64 (a0)) 64)) 64))) % 256,(wrap64 (128+(Int.tmod (wrap64 (a0)) 64))) % 256]:List Int)):=⟨_,rfl⟩;replace H:(some (strOfNums y161)) = some r:=QH hy161 H
       have Ny161:=AM hy161;clear hy161;obtain rfl:=Option.some.inj H;go_wp2_with (first | ((with_reducible refine gate_dst (N:=53) rfl ?_);refine Kd.R_lit (Kd.int .u8) _ 5 ?hg (N:=53) ?hd (xs:=([(wrap64 (224+(wrap64 (Int.tdiv (wrap64 (a0)) 4096)))) % 256,(wrap64 (128+(Int.tmod (wrap64 (Int.tdiv (wrap64 (a0)) 64)) 64))) % 256,(wrap64 (128+(Int.tmod (wrap64 (a0)) 64))) % 256]:List Int)) (inner:=[.int .u8 ((wrap64 (224+(wrap64 (Int.tdiv (wrap64 (a0)) 4096)))) % 256),.int .u8 ((wrap64 (128+(Int.tmod (wrap64 (Int.tdiv (wrap64 (a0)) 64)) 64))) % 256),.int .u8 ((wrap64 (128+(Int.tmod (wrap64 (a0)) 64))) % 256)]) (ok:=fun _ => True) (okp:=fun _ => True) ?hr ?hp (fun _ hk => hk) trivial (Below.refl _ _) (Nat.le_refl _) (by simp) ?_;(case hd => rfl);(case hg => rfl);(case hr => first | (go_simp;done) | (go_simp;rfl));(case hp => exact (Reps.one (show Kd.M (Kd.int .u8) _ _ _ ((wrap64 (224+(wrap64 (Int.tdiv (wrap64 (a0)) 4096)))) % 256) [.int .u8 ((wrap64 (224+(wrap64 (Int.tdiv (wrap64 (a0)) 4096)))) % 256)] from rfl) (Reps.one (show Kd.M (Kd.int .u8) _ _ _ ((wrap64 (128+(Int.tmod (wrap64 (Int.tdiv (wrap64 (a0)) 64)) 64))) % 256) [.int .u8 ((wrap64 (128+(Int.tmod (wrap64 (Int.tdiv (wrap64 (a0)) 64)) 64))) % 256)] from rfl) (Reps.one (show Kd.M (Kd.int .u8) _ _ _ ((wrap64 (128+(Int.tmod (wrap64 (a0)) 64))) % 256) [.int .u8 ((wrap64 (128+(Int.tmod (wrap64 (a0)) 64))) % 256)] from rfl) (Reps.none _ _)))));intro v162 w16 ho17 hb hg_ hnew_;clear hg_ hnew_;(first | rw [← Ny161.out] at ho17 | (simp only [Int.reduceToNat] at ho17;rw [← Ny161.out] at ho17));have HO163:=AM (Kd.R_lower ho17 (below_size (BB HB)));replace HB:=BS HB hb;clear hb ho17;have hcv18:=own_string (P:=Tryd.prog) Tryd.underlying132 Tryd.underlying5 Tryd.underlying9 (Kd.own_of_R HO163.out)))
       go_ret;exact RT (BB HB)
      ·rw [if_neg c15] at H;have c15b0:decide ((wrap64 (a0)) < 65536) = false:=decide_eq_false c15;clear c15;obtain ⟨y164,hy164⟩:∃ y_:List Int,y_ = (([(wrap64 (240+(wrap64 (Int.tdiv (wrap64 (a0)) 262144)))) % 256,(wrap64 (128+(Int.tmod (wrap64 (Int.tdiv (wrap64 (a0)) 4096)) 64))) % 256,(wrap64 (128+(Int.tmod (wrap64 (Int.tdiv (wrap64 (a0)) 64)) 64))) % 256,(wrap64 (128+(Int.tmod (wrap64 (a0)) 64))) % 256]:List Int)):=⟨_,rfl⟩;replace H:(some (strOfNums y164)) = some r:=QH hy164 H
       have Ny164:=AM hy164;clear hy164;obtain rfl:=Option.some.inj H;go_wp2_with (first | ((with_reducible refine gate_dst (N:=73) rfl ?_);refine Kd.R_lit (Kd.int .u8) _ 5 ?hg (N:=73) ?hd (xs:=([(wrap64 (240+(wrap64 (Int.tdiv (wrap64 (a0)) 262144)))) % 256,(wrap64 (128+(Int.tmod (wrap64 (Int.tdiv (wrap64 (a0)) 4096)) 64))) % 256,(wrap64 (128+(Int.tmod (wrap64 (Int.tdiv (wrap64 (a0)) 64)) 64))) % 256,(wrap64 (128+(Int.tmod (wrap64 (a0)) 64))) % 256]:List Int)) (inner:=[.int .u8 ((wrap64 (240+(wrap64 (Int.tdiv (wrap64 (a0)) 262144)))) % 256),.int .u8 ((wrap64 (128+(Int.tmod (wrap64 (Int.tdiv (wrap64 (a0)) 4096)) 64))) % 256),.int .u8 ((wrap64 (128+(Int.tmod (wrap64 (Int.tdiv (wrap64 (a0)) 64)) 64))) % 256),.int .u8 ((wrap64 (128+(Int.tmod (wrap64 (a0)) 64))) % 256)]) (ok:=fun _ => True) (okp:=fun _ => True) ?hr ?hp (fun _ hk => hk) trivial (Below.refl _ _) (Nat.le_refl _) (by simp) ?_;(case hd => rfl);(case hg => rfl);(case hr => first | (go_simp;done) | (go_simp;rfl));(case hp => exact (Reps.one (show Kd.M (Kd.int .u8) _ _ _ ((wrap64 (240+(wrap64 (Int.tdiv (wrap64 (a0)) 262144)))) % 256) [.int .u8 ((wrap64 (240+(wrap64 (Int.tdiv (wrap64 (a0)) 262144)))) % 256)] from rfl) (Reps.one (show Kd.M (Kd.int .u8) _ _ _ ((wrap64 (128+(Int.tmod (wrap64 (Int.tdiv (wrap64 (a0)) 4096)) 64))) % 256) [.int .u8 ((wrap64 (128+(Int.tmod (wrap64 (Int.tdiv (wrap64 (a0)) 4096)) 64))) % 256)] from rfl) (Reps.one (show Kd.M (Kd.int .u8) _ _ _ ((wrap64 (128+(Int.tmod (wrap64 (Int.tdiv (wrap64 (a0)) 64)) 64))) % 256) [.int .u8 ((wrap64 (128+(Int.tmod (wrap64 (Int.tdiv (wrap64 (a0)) 64)) 64))) % 256)] from rfl) (Reps.one (show Kd.M (Kd.int .u8) _ _ _ ((wrap64 (128+(Int.tmod (wrap64 (a0)) 64))) % 256) [.int .u8 ((wrap64 (128+(Int.tmod (wrap64 (a0)) 64))) % 256)] from rfl) (Reps.none _ _))))));intro v165 w19 ho20 hb hg_ hnew_;clear hg_ hnew_;(first | rw [← Ny164.out] at ho20 | (simp only [Int.reduceToNat] at ho20;rw [← Ny164.out] at ho20));have HO166:=AM (Kd.R_lower ho20 (below_size (BB HB)));replace HB:=BS HB hb;clear hb ho20;have hcv21:=own_string (P:=Tryd.prog) Tryd.underlying132 Tryd.underlying5 Tryd.underlying9 (Kd.own_of_R HO166.out)))
       go_ret;exact RT (BB HB)
end Go.Proofs.YtcphcaiiofeflaaDoor.GO
