/- Texts of the claim, one behind the other. -/
import Derived.Test.YtoigkneoaemcfaaDoorNoM13
import Derived.Test.YtoigkneoaemcfaaDoorNoM14
import Derived.Test.YtoigkneoaemcfaaDoorNoM10
import Derived.Test.YtoigkneoaemcfaaDoorNoM11
import Derived.Test.YtoigkneoaemcfaaDoorNoM12
import Derived.Test.YtoigkneoaemcfaaDoorNoGNx6
import Derived.Test.YtoigkneoaemcfaaDoorNoGNx5
import Derived.Test.YtoigkneoaemcfaaDoorNoGNx1
namespace Go.Proofs.YtoigkneoaemcfaaDoor.Rec
open Go.RowKit Go.Lib Go.Proofs.YtoigkneoaemcfaaDoorW.PrintWords Go.Proofs.YtoigkneoaemcfaaDoorW.PrintLast Go.Proofs.YtoigkneoaemcfaaDoorW.PrintMore Go.Proofs.YtoigkneoaemcfaaDoor.B Go.Proofs.YtoigkneoaemcfaaDoor.Bd Go.Proofs.YtoigkneoaemcfaaDoor.Tab Go.Proofs.YtoigkneoaemcfaaDoor.GN
set_option linter.unusedVariables false
set_option linter.unusedSimpArgs false
structure Sm (l1:List Int) (l2:List ByteArray) (l3:List Int):Prop where
  n1:l1.length≤100
  n2:l2.length≤100
  n3:l3.length≤300
  s2:∀ s ∈ l2,s.size≤500
theorem Sm.fit {l1:List Int} {l2:List ByteArray} {l3:List Int} (h:Sm l1 l2 l3):Fit l1 l2 l3:=⟨by have:=h.n1;omega,by have:=h.n2;omega,by have:=h.n3;omega,fun s hs => by have:=h.s2 s hs;omega⟩
theorem Sm.total {l1:List Int} {l2:List ByteArray} {l3:List Int} (h:Sm l1 l2 l3):Tab.total l2≤50000:=by
  have:∀ l:List ByteArray,(∀ s ∈ l,s.size≤500)→Tab.total l≤500 * l.length:=by
    intro l
    induction l with
    | nil => intro _;simp [Tab.total]
    | cons a l ih =>
      intro hs
      have h1:=ih (fun s hs2 => hs s (List.mem_cons_of_mem _ hs2))
      have h2:=hs a List.mem_cons_self
      rw [total_cons,List.length_cons]
      omega
  have h1:=this l2 h.s2
  have h2:=h.n2
  omega
section
variable {k:Int} {A1:Option Addr} {c1:Nat} {l1:List Int} {A2:Option Addr} {c2:Nat} {l2:List ByteArray} {A3:Option Addr} {c3:Nat} {l3:List Int}
end
section
variable {w w':World} {base:Nat} {v1 v2 v3:Value} {l1:List Int} {l2:List ByteArray} {l3:List Int}
def Away (F:Nat→Prop) (v1 v2 v3:Value):Prop:=∀ k,F k→v1.ownBlock≠some k∧v2.ownBlock≠some k∧v3.ownBlock≠some k
theorem Made.mv {S:Nat→Prop} (h:Made w base v1 v2 v3 l1 l2 l3) (m:Mv S w w') (hS:Away S v1 v2 v3):Made w' base v1 v2 v3 l1 l2 l3 :=
  ⟨row_mv h.1 m (fun k hk hs => (hS k hs).1 hk),row_mv h.2.1 m (fun k hk hs => (hS k hs).2.1 hk),row_mv h.2.2 m (fun k hk hs => (hS k hs).2.2 hk)⟩
theorem Made.away {F:Nat→Prop} (h:Made w base v1 v2 v3 l1 l2 l3) (hF:∀ k,F k→k < base):Away F v1 v2 v3:=fun k hk =>
  ⟨fun e => by have:=(h.1.lt k e).1;have:=hF k hk;omega,fun e => by have:=(h.2.1.lt k e).1;have:=hF k hk;omega,fun e => by have:=(h.2.2.lt k e).1;have:=hF k hk;omega⟩
theorem Made.below (h:Made w base v1 v2 v3 l1 l2 l3) (m:Below w.heap.size w w'):Made w' base v1 v2 v3 l1 l2 l3:=h.mv (Mv.of_below (S:=nil) m) (fun _ h => h.elim)
theorem Made.reads (h:Made w base v1 v2 v3 l1 l2 l3):∃ A1 c1 A2 c2 A3 c3,v1 = .slice A1 l1.length c1∧v2 = .slice A2 l2.length c2∧v3 = .slice A3 l3.length c3∧In w A1 c1 l1 A2 c2 l2 A3 c3 l3:=by
  obtain ⟨A1,c1,rfl,h1,r1⟩:=Kd.R_reads (Kw.R_of_own (enc:=i64V) (h1:=fun _ => rfl) h.1)
  obtain ⟨A2,c2,rfl,h2,r2⟩:=Kd.R_reads (Kw.R_of_own (enc:=Value.string) (h1:=fun _ => rfl) h.2.1)
  obtain ⟨A3,c3,rfl,h3,r3⟩:=Kd.R_reads (Kw.R_of_own (enc:=i64V) (h1:=fun _ => rfl) h.2.2)
  exact ⟨A1,c1,A2,c2,A3,c3,rfl,rfl,rfl,⟨r1,h1,r2,h2,r3,h3⟩⟩
end
section
variable {w0 w w':World} {F:Nat→Prop} {p:Nat} {L:List ByteArray}
def Stays (w0 w:World) (F:Nat→Prop) (A1:Option Addr) (c1:Nat) (l1:List Int) (A2:Option Addr) (c2:Nat) (l2:List ByteArray) (A3:Option Addr) (c3:Nat) (l3:List Int):Prop:=∀ w',Mv F w w'→In w' A1 c1 l1 A2 c2 l2 A3 c3 l3
theorem has_turned (h:Has w0 w F p L) (m:Mv F w w'):Below w0.heap.size w0 w':=((Mv.of_below (S:=F) h.1).trans m (fun k hk => .inl hk)).below h.2.2
section
variable {A1:Option Addr} {c1:Nat} {l1:List Int} {A2:Option Addr} {c2:Nat} {l2:List ByteArray} {A3:Option Addr} {c3:Nat} {l3:List Int}
theorem stays_in (h:Has w0 w F p L) (hi:In w0 A1 c1 l1 A2 c2 l2 A3 c3 l3):Stays w0 w F A1 c1 l1 A2 c2 l2 A3 c3 l3:=fun w' m => hi.below (has_turned h m)
theorem has_rput (h:Has w0 w F p L) (k at':Int) (ht:∀ w',Below w0.heap.size w0 w'→Lib.Utf8Tabs 0 1 w') (hn:Stays w0 w F A1 c1 l1 A2 c2 l2 A3 c3 l3) (hf:Fit l1 l2 l3) (hi1:I64 l1) (hi3:I64 l3) (hat:-9223372036854775808≤at'∧at'≤9223372036854775807) (hL:L.length≤1000000) (htot:total L≤1000000000000) :
    Calls Tryd.prog 17 #[.agg #[.int .i64 k,.slice A1 l1.length c1,.slice A2 l2.length c2,.slice A3 l3.length c3],.int .i64 at',.pointer (some ⟨p,0,none⟩)] w fun e w' => e = .returned (.tuple #[.string (putR k l1 l2 l3 at' L).1,.int .i64 (putR k l1 l2 l3 at' L).2.2])∧∃ F',Has w0 w' F' p (putR k l1 l2 l3 at' L).2.1∧Mv F w w'∧Fresh w.heap.size F F':=by
  refine (recput_calls F p L k at' A1 c1 l1 A2 c2 l2 A3 c3 l3 w h.2.1 (fun w' m => ht w' (has_turned h m)) hn hf hi1 hi3 hat hL htot).mono ?_
  rintro e w' ⟨rfl,F',h1,h2,h3⟩
  refine ⟨rfl,F',⟨has_turned h h2,h1,fun k hk => ?_⟩,h2,h3⟩
  rcases h3 k hk with h4 | h4
  · exact h.2.2 k h4
  · exact Nat.le_trans h.1.size h4
end
end
end Go.Proofs.YtoigkneoaemcfaaDoor.Rec
namespace Go.Proofs.YtoigkneoaemcfaaDoor.GN
open Go.RowKit Go.Proofs.YtoigkneoaemcfaaDoorW.PrintWords Go.Proofs.YtoigkneoaemcfaaDoorW.PrintLast Go.Proofs.YtoigkneoaemcfaaDoorW.PrintMore
set_option linter.unusedVariables false
set_option linter.unusedSimpArgs false
theorem less_int (a b:Int):cmp_Less_int.f a b = some (decide (a < b)):=by
  unfold cmp_Less_int.f cmp_isNaN_int.f
  simp
theorem sorted_l0 (tl:List Int) (n:Nat) (hn:n≤1000000) (hl:tl.length = n) (h:∀ j,j < n→tl.getD j 0 = (j:Int)):∀ i:Nat,i < n→∀ k,slices_IsSorted_int_int.l0 (k+i+1) tl (i:Int) = some true:=by
  intro i
  induction i with
  | zero =>
    intro _ k
    rw [slices_IsSorted_int_int.l0,if_neg (by omega)]
  | succ i ih =>
    intro hi k
    rw [show k+(i+1)+1 = (k+i+1)+1 by omega,slices_IsSorted_int_int.l0,if_pos (by omega),if_pos (by omega),if_pos (by omega),w64 (by omega) (by omega),show ((i+1:Nat):Int) - 1 = (i:Int) by omega,if_pos (by omega),if_pos (by omega),less_int,Option.bind_some,rd_nat,rd_nat,h _ hi,h _ (by omega),if_neg (by simp;omega)]
    exact ih (by omega) k
theorem sorted9 (tl:List Int) (hn:tl.length≤1000000) (h:∀ j,j < tl.length→tl.getD j 0 = (j:Int)) (k:Nat):slices_IsSorted_int_int.f (k+tl.length+1) tl = some true:=by
  unfold slices_IsSorted_int_int.f
  rw [w64 (by omega) (by omega)]
  by_cases h0:tl.length = 0
  · rw [h0]
    rw [slices_IsSorted_int_int.l0,if_neg (by omega)]
  · have:=sorted_l0 tl tl.length hn rfl h (tl.length - 1) (by omega) (k+1)
    rw [show k+1+(tl.length - 1)+1 = k+tl.length+1 by omega,show ((tl.length - 1:Nat):Int) = (tl.length:Int) - 1 by omega] at this
    exact this
theorem is_l0 (tl:List Int) (hn:tl.length≤1000000) (h0:0 < tl.length):∀ (d i:Nat),i+d = tl.length→(∀ j,j < i→tl.getD j 0 = (j:Int))→∀ k,canon_Is.l0 (k+tl.length+1+d+1) tl tl (tl.length:Int) (i:Int) = some (decide (∀ j,j < tl.length→tl.getD j 0 = (j:Int))):=by
  intro d
  induction d with
  | zero =>
    intro i hi hj k
    have hall:∀ j,j < tl.length→tl.getD j 0 = (j:Int):=fun j h => hj j (by omega)
    rw [canon_Is.l0,if_neg (by omega),if_pos (by omega),sorted9 tl hn hall k,Option.bind_some,decide_eq_true hall]
  | succ d ih =>
    intro i hi hj k
    rw [show k+tl.length+1+(d+1)+1 = (k+tl.length+1+d+1)+1 by omega,canon_Is.l0,if_pos (by omega),if_pos (by omega),if_pos (by omega),rd_nat,w64 (by omega) (by omega)]
    by_cases e:(i:Int) = tl.getD i 0
    · rw [if_pos e]
      refine ih (i+1) (by omega) (fun j h => ?_) k
      by_cases hji:j = i
      · subst hji;exact e.symm
      · exact hj j (by omega)
    · rw [if_neg e,decide_eq_false (fun h => e (h i (by omega)).symm)]
section
variable {l0:List (S40)} {a1:Int}
theorem cl_range (h:GT.Cn (GT.toG (kidsI l0)) a1.toNat (cl l0 a1)):(∀ j,j < l0.length→(tlOf l0 a1).getD j 0 = (j:Int))↔cl l0 a1 = List.range l0.length:=by
  have hl:=toG_len l0
  constructor
  · intro hj
    apply List.ext_getElem?
    intro i
    by_cases hi:i < l0.length
    · have h1:=h.get_lt (i:=i) (by omega)
      have h2:=hj _ (show (cl l0 a1).getD i 0 < l0.length by omega)
      rw [tl_get (by omega),h.find_get (by omega)] at h2
      rw [List.getElem?_range hi]
      have h3:(cl l0 a1).getD i 0 = i:=by omega
      rw [List.getD_eq_getElem?_getD,List.getElem?_eq_getElem (by rw [h.len];omega)] at h3
      rw [List.getElem?_eq_getElem (by rw [h.len];omega)]
      exact congrArg some h3
    · rw [List.getElem?_eq_none (by rw [h.len];omega),List.getElem?_eq_none (by rw [List.length_range];omega)]
  · intro e j hj
    rw [tl_get hj,e,GT.find_range hj]
theorem gis (hn:l0.length≤1000000) (hE:((kidsI l0).map List.length).sum≤1000000):∃ K,∀ k,canon_Is.f (k+K) l0 a1 = some (decide ((checkP l0 a1).1 = 0∧cl l0 a1 = List.range l0.length)):=by
  obtain ⟨K,h1⟩:=gnumbers (a1:=a1) hn hE
  by_cases hc:(checkP l0 a1).1 = 0
  · obtain ⟨h2,_⟩:=cn_of hn hE hc
    obtain ⟨h0,h3,_⟩:=checkP_zero hE hc
    refine ⟨K+l0.length+1+l0.length+1,fun k => ?_⟩
    have h4:=h1 (k+l0.length+1+l0.length+1)
    rw [if_pos hc] at h4
    have h5:=is_l0 (tlOf l0 a1) (by rw [tl_len];exact hn) (by rw [tl_len];omega) (tlOf l0 a1).length 0 (by omega) (fun j h => by omega) (k+K)
    rw [tl_len] at h5
    rw [show k+(K+l0.length+1+l0.length+1) = k+l0.length+1+l0.length+1+K by omega,canon_Is.f,h4,Option.bind_some,tl_len,show k+l0.length+1+l0.length+1+K = k+K+l0.length+1+l0.length+1 by omega]
    refine h5.trans ?_
    congr 1
    exact decide_eq_decide.2 (by rw [cl_range h2];exact ⟨fun h => ⟨hc,h⟩,fun h => h.2⟩)
  · refine ⟨K+1,fun k => ?_⟩
    have h4:=h1 (k+1)
    rw [if_neg hc] at h4
    rw [show k+(K+1) = k+1+K by omega,canon_Is.f,h4,Option.bind_some,show k+1+K = k+K+1 by omega]
    rw [canon_Is.l0,if_neg (by simp),if_neg (by simp),decide_eq_false (fun h => hc h.1)]
end
end Go.Proofs.YtoigkneoaemcfaaDoor.GN
namespace Go.Proofs.YtoigkneoaemcfaaDoor.Nd
open Go.RowKit Go.Lib Go.Proofs.YtoigkneoaemcfaaDoorW.PrintWords Go.Proofs.YtoigkneoaemcfaaDoorW.PrintLast Go.Proofs.YtoigkneoaemcfaaDoorW.PrintMore Go.Proofs.YtoigkneoaemcfaaDoor.B Go.Proofs.YtoigkneoaemcfaaDoor.Bd Go.Proofs.YtoigkneoaemcfaaDoor.Tab Go.Proofs.YtoigkneoaemcfaaDoor.Rec
open Go.Proofs.YtoigkneoaemcfaaDoor.GN (S40 rd_T40 k40 kidsI checkP cl H)
set_option linter.unusedVariables false
set_option linter.unusedSimpArgs false
section
variable (A0:Option Addr) (c0:Nat) (l0:List (S40)) (a1:Int) (w:World) (hr:Kd.C k40 w A0 l0.length l0) (hc:l0.length≤c0) (hn:l0.length≤1000000) (hE:kidN l0≤1000000)
include hr hc hn hE
theorem check_calls:Calls Tryd.prog 33 #[.agg #[.slice A0 l0.length c0,.int .i64 a1]] w fun e w' => e = .returned (.tuple #[.int .i64 (checkP l0 a1).1,.int .i64 (checkP l0 a1).2])∧Below w.heap.size w w':=by
  obtain ⟨K,h⟩:=GN.gcheck l0 a1 hn (by rw [kidN_sum];exact hE)
  exact GN.graph_Check.calls (0+K) A0 c0 l0 a1 _ _ w hr hc (h 0)
theorem is_calls:Calls Tryd.prog 35 #[.agg #[.slice A0 l0.length c0,.int .i64 a1]] w fun e w' => e = .returned (.bool (isB l0 a1))∧Below w.heap.size w w':=by
  obtain ⟨K,h⟩:=GN.gis (l0:=l0) (a1:=a1) hn (by rw [kidN_sum];exact hE)
  exact GN.canon_Is.calls (0+K) A0 c0 l0 a1 _ w hr hc (h 0)
theorem depth_calls:Calls Tryd.prog 34 #[.agg #[.slice A0 l0.length c0,.int .i64 a1]] w fun e w' => e = .returned (.int .i64 (depD l0 a1))∧Below w.heap.size w w':=by
  obtain ⟨K,h⟩:=GN.gdepth l0 a1 hn (by rw [kidN_sum];exact hE)
  exact GN.graph_Depth.calls (0+K) A0 c0 l0 a1 _ w hr hc (h 0)
end
def rB (b0 b1 b2 b3 b4:Int):Bool:=LimW.wB b0 b1 b2 b3 b4 16777216 16777216 16777216 16777216 16777216 && LimW.wB 0 0 0 0 0 b0 b1 b2 b3 b4
theorem rB_iff (b0 b1 b2 b3 b4:Int):rB b0 b1 b2 b3 b4 = true↔(b0≤16777216∧b1≤16777216∧b2≤16777216∧b3≤16777216∧b4≤16777216)∧0≤b0∧0≤b1∧0≤b2∧0≤b3∧0≤b4:=by
  unfold rB LimW.wB
  rw [Bool.and_eq_true,decide_eq_true_eq,decide_eq_true_eq]
theorem right_calls (b0 b1 b2 b3 b4:Int) (w:World):Calls Tryd.prog 30 #[.agg #[.int .i64 b0,.int .i64 b1,.int .i64 b2,.int .i64 b3,.int .i64 b4]] w fun e w' => e = .returned (.bool (rB b0 b1 b2 b3 b4))∧Below w.heap.size w w':=by
  refine GN.limit_Right.calls b0 b1 b2 b3 b4 _ w ?_
  unfold GN.limit_Right.f GN.limit_Within.f rB
  simp only [Option.bind_some]
  by_cases h:LimW.wB b0 b1 b2 b3 b4 16777216 16777216 16777216 16777216 16777216 = true
  · rw [h];simp
  · rw [Bool.not_eq_true] at h;rw [h];simp
end Go.Proofs.YtoigkneoaemcfaaDoor.Nd
