import Derived.Test.YtoigkneoaemcfaaDoorNoM8
import Derived.Test.YtoigkneoaemcfaaDoorNoM9
import Derived.Test.YtoigkneoaemcfaaDoorNoM12
namespace Go.Proofs.YtoigkneoaemcfaaDoor.Nd
open Go.RowKit Go.Lib Go.Proofs.YtoigkneoaemcfaaDoorW.PrintWords Go.Proofs.YtoigkneoaemcfaaDoorW.PrintLast Go.Proofs.YtoigkneoaemcfaaDoorW.PrintMore Go.Proofs.YtoigkneoaemcfaaDoor.B Go.Proofs.YtoigkneoaemcfaaDoor.Tab Go.Proofs.YtoigkneoaemcfaaDoor.VM Go.Proofs.YtoigkneoaemcfaaDoor.Rec
open Go.Proofs.YtoigkneoaemcfaaDoor.GN (S40 rd_T40 kidsI checkP cl H)
set_option linter.unusedVariables false
set_option linter.unusedSimpArgs false
def nE (n:S40):Int:=nodeE n.f0 n.f1 n.f2 n.f3
def typedE:List (S40)→Nat→Int × Int
  | [],_ => (0,0)
  | n :: l,i => if nE n≠0 then (nE n,(i:Int)) else typedE l (i+1)
theorem typedE_zero:∀ (l:List (S40)) (i:Nat),(typedE l i).1 = 0↔∀ n ∈ l,nE n = 0
  | [],i => by simp [typedE]
  | n :: l,i => by
    rw [typedE]
    by_cases h:nE n = 0
    · rw [if_neg (by simpa using h),typedE_zero l (i+1)];simp [h]
    · rw [if_pos h];simp [h]
def isB (l0:List (S40)) (a1:Int):Bool:=decide ((checkP l0 a1).1 = 0∧cl l0 a1 = List.range l0.length)
def depD (l0:List (S40)) (a1:Int):Int:=if (checkP l0 a1).1 = 0 then (H l0 a1.toNat:Int) else 0
def txs (l:List (S40)):List ByteArray:=l.flatMap (·.f2)
theorem txs_cons (n:S40) (l:List (S40)):txs (n :: l) = n.f2 ++ txs l:=by simp [txs]
def kidN:List (S40)→Nat
  | [] => 0
  | n :: l => n.f3.length+kidN l
theorem kidN_sum:∀ l:List (S40),((kidsI l).map List.length).sum = kidN l
  | [] => rfl
  | n :: l => by rw [kidN,← kidN_sum l];simp [kidsI]
theorem kidN_append:∀ (l m:List (S40)),kidN (l ++ m) = kidN l+kidN m
  | [],m => by simp [kidN]
  | n :: l,m => by rw [List.cons_append,kidN,kidN,kidN_append l m];omega
def recB:Nat→ByteArray→List ByteArray→List (S40)→ByteArray × List ByteArray
  | _,o,L,[] => (o,L)
  | i,o,L,n :: l => recB (i+1) (o ++ (putR n.f0 n.f1 n.f2 n.f3 (i:Int) L).1) (putR n.f0 n.f1 n.f2 n.f3 (i:Int) L).2.1 l
def putNE (l0:List (S40)) (a1:Int):Int:=if (typedE l0 0).1≠0 then (typedE l0 0).1 else if (checkP l0 a1).1≠0 then (checkP l0 a1).1 else if isB l0 a1 = false then 16 else 0
def putN (l0:List (S40)) (a1:Int):ByteArray × ByteArray × Int :=
  if putNE l0 a1≠0 then (⟨#[]⟩,⟨#[]⟩,putNE l0 a1) else (tabB (recB 0 (Cur.put l0.length) [] l0).2,(recB 0 (Cur.put l0.length) [] l0).1,0)
def nodeOf (r:Int × List Int × List ByteArray × List Int):S40:=⟨r.1,r.2.1,r.2.2.1,r.2.2.2⟩
def allN (L:List ByteArray):Nat→Nat→Int→Cur.Cur→List (S40)→Cur.Cur × List (S40)
  | 0,_,_,c,a => (c,a)
  | n+1,i,e,c,a => if c.e≠0 then (c,a) else allN L n (i+1) (e - (getR (i:Int) e L c).2.2.2.2.length) (getR (i:Int) e L c).1 (a ++ [nodeOf (getR (i:Int) e L c).2])
def cntN (b:ByteArray) (ln:Int):Int × Cur.Cur:=(((Cur.new b).uint ln).1,if ((Cur.new b).uint ln).1 = 0 then ((Cur.new b).uint ln).2.fail 13 else ((Cur.new b).uint ln).2)
def runN (b:ByteArray) (L:List ByteArray) (ln le:Int):Cur.Cur × List (S40):=allN L (cntN b ln).1.toNat 0 le (cntN b ln).2 []
def endN (c:Cur.Cur):Cur.Cur:=if c.left > 0 then c.fail 8 else c
def endE (L:List ByteArray) (l:List (S40)) (r ld:Int):Int:=if (checkP l r).1≠0 then (checkP l r).1 else if depD l r > ld then 19 else if isB l r = false then 16 else if tabOf [] (txs l) = L then 0 else 18
def getNE (tx b:ByteArray) (l0 l1 l2 l3 l4:Int) (okL:Bool):Int :=
  if okL = false then 1 else if (getE badS tx 16777216 l4).1≠0 then (getE badS tx 16777216 l4).1
  else if (endN (runN b (getE badS tx 16777216 l4).2 l1 l2).1).e≠0 then (endN (runN b (getE badS tx 16777216 l4).2 l1 l2).1).e
  else endE (getE badS tx 16777216 l4).2 (runN b (getE badS tx 16777216 l4).2 l1 l2).2 ((cntN b l1).1 - 1) l3
def getN (tx b:ByteArray) (l0 l1 l2 l3 l4:Int) (okL:Bool):List (S40) × Int × Int :=
  if getNE tx b l0 l1 l2 l3 l4 okL≠0 then ([],0,getNE tx b l0 l1 l2 l3 l4 okL) else ((runN b (getE badS tx 16777216 l4).2 l1 l2).2,(cntN b l1).1 - 1,0)
theorem idx_back {M:List ByteArray} (hn:M.Nodup) {is:List Nat} (h:∀ i ∈ is,i < M.length):(is.map fun i => M.getD i ⟨#[]⟩).map M.idxOf = is:=by
  rw [List.map_map]
  conv => rhs;rw [← List.map_id is]
  refine List.map_congr_left fun i hi => ?_
  have hl:=h i hi
  have hg:M.getD i ⟨#[]⟩ = M[i]:=by rw [List.getD_eq_getElem?_getD,List.getElem?_eq_getElem hl];rfl
  show M.idxOf (M.getD i ⟨#[]⟩) = i
  rw [hg,hn.idxOf_getElem i hl]
theorem ids_idx (l L suf:List ByteArray) (hn:(tabOf L l ++ suf).Nodup):ids L l = l.map (tabOf L l ++ suf).idxOf:=by
  obtain ⟨h1,h2⟩:=ids_get l L suf
  have h3:=idx_back hn h1
  rw [h2] at h3
  exact h3.symm
def recsN (T:List ByteArray):Nat→List (S40)→List Nat
  | _,[] => []
  | i,n :: l => recI n.f0 n.f1 (n.f2.map T.idxOf) n.f3 (i:Int) ++ recsN T (i+1) l
structure Fine (T:List ByteArray) (i:Nat) (n:S40):Prop where
  good:Rec.Good n.f0 n.f1 n.f2 n.f3
  kids:kidsE (i:Int) n.f3 = false
  nums:I64 n.f1
  text:∀ s ∈ n.f2,s ∈ T
  many:n.f3.length≤16777216
def Fines (T:List ByteArray):Nat→List (S40)→Prop
  | _,[] => True
  | i,n :: l => Fine T i n∧Fines T (i+1) l
theorem fines_mem {T:List ByteArray}:∀ {i:Nat} {l:List (S40)},Fines T i l→∀ n ∈ l,∃ j,j < i+l.length∧Fine T j n
  | i,[],_,n,hn => by cases hn
  | i,m :: l,⟨h1,h2⟩,n,hn => by
    rcases List.mem_cons.1 hn with rfl | hn
    · exact ⟨i,by rw [List.length_cons];omega,h1⟩
    · obtain ⟨j,hj,h3⟩:=fines_mem h2 n hn
      exact ⟨j,by rw [List.length_cons];omega,h3⟩
def Puts:Nat→List (S40)→Prop
  | _,[] => True
  | i,n :: l => putE n.f0 n.f1 n.f2 n.f3 (i:Int) = 0∧Puts (i+1) l
theorem recB_all:∀ (l:List (S40)) (i:Nat) (o:ByteArray) (L:List ByteArray),Puts i l→L.Nodup→(recB i o L l).2 = tabOf L (txs l)∧Cur.bl (recB i o L l).1 = Cur.bl o ++ recsN (tabOf L (txs l)) i l
  | [],i,o,L,_,_ => by simp [recB,txs,tabOf,recsN]
  | n :: l,i,o,L,⟨h1,h2⟩,hn => by
    have hp:putR n.f0 n.f1 n.f2 n.f3 (i:Int) L = ((putO n.f0 n.f1 n.f2 n.f3 (i:Int) L).1,(putO n.f0 n.f1 n.f2 n.f3 (i:Int) L).2,0):=by unfold putR;rw [if_neg (by simpa using h1)]
    have hn2:=tabOf_nodup n.f2 L hn
    obtain ⟨suf,hs⟩:=tabOf_pre (txs l) (tabOf L n.f2)
    obtain ⟨i1,i2⟩:=recB_all l (i+1) (o ++ (putO n.f0 n.f1 n.f2 n.f3 (i:Int) L).1) (tabOf L n.f2) h2 hn2
    have e:tabOf L (txs (n :: l)) = tabOf (tabOf L n.f2) (txs l):=by rw [txs_cons,tabOf_append]
    rw [recB,hp]
    simp only
    rw [putO_tab,i1,i2,e]
    refine ⟨rfl,?_⟩
    rw [Cur.append_bl,putO_bl,recsN,ids_idx n.f2 L suf (by rw [← hs];exact tabOf_nodup _ _ hn2),← hs,List.append_assoc]
theorem kids_ahead {l0:List (S40)} {a1:Int} (hn:l0.length≤1000000) (hE:((kidsI l0).map List.length).sum≤1000000) (h:isB l0 a1 = true) {i:Nat} (hi:i < l0.length):kidsE (i:Int) l0[i].f3 = false:=by
  obtain ⟨hc,hr⟩:=of_decide_eq_true h
  obtain ⟨h5,_⟩:=GN.cn_of hn hE hc
  obtain ⟨g0,g1,hgood,_,_⟩:=GN.checkP_zero hE hc
  unfold kidsE
  rw [List.any_eq_false]
  intro k hk
  have hk2:=GN.kids_get (l0:=l0) hgood i
  rw [GN.rdT_get hi] at hk2
  rw [hk2] at hk
  unfold GN.intsOf at hk
  obtain ⟨y,hy,rfl⟩:=List.mem_map.1 hk
  have hcl:cl l0 a1 = List.range l0.length:=hr
  have hgl:=GN.toG_len l0
  have hpost:=h5.post
  rw [hcl] at hpost
  have hsp:List.range l0.length = List.range i ++ i :: (List.range (l0.length - (i+1))).map (·+(i+1)):=by
    conv => lhs;rw [show l0.length = (i+1)+(l0.length - (i+1)) by omega,List.range_add,List.range_succ,List.append_assoc,List.singleton_append]
    simp [Nat.add_comm]
  have:=hpost _ _ _ hsp y hy
  rw [List.mem_range] at this
  simp only [Bool.not_eq_true,decide_eq_false_iff_not]
  show ¬ ((y:Int) < 0 ∨ (i:Int)≤(y:Int))
  omega
theorem puts_of {l0:List (S40)} {a1:Int} (hn:l0.length≤1000000) (hE:((kidsI l0).map List.length).sum≤1000000) (h:putNE l0 a1 = 0):Puts 0 l0∧(∀ n ∈ l0,nE n = 0)∧isB l0 a1 = true∧(checkP l0 a1).1 = 0:=by
  unfold putNE at h
  split at h
  · rename_i h1;exact absurd h h1
  rename_i h1
  split at h
  · rename_i h2;exact absurd h h2
  rename_i h2
  split at h
  · exact absurd h (by decide)
  rename_i h3
  have h1':(typedE l0 0).1 = 0:=by simpa using h1
  have hB:isB l0 a1 = true:=by simpa using h3
  have hnE:=(typedE_zero l0 0).1 h1'
  refine ⟨?_,hnE,hB,by simpa using h2⟩
  have key:∀ (d i:Nat),i+d = l0.length→Puts i (l0.drop i):=by
    intro d
    induction d with
    | zero => intro i hi;rw [List.drop_of_length_le (by omega)];trivial
    | succ d ih =>
      intro i hi
      have hil:i < l0.length:=by omega
      rw [List.drop_eq_getElem_cons hil]
      exact ⟨putE_zero.2 ⟨hnE _ (List.getElem_mem _),kids_ahead hn hE hB hil⟩,ih (i+1) (by omega)⟩
  exact key l0.length 0 (by omega)
theorem putN_e1 {l0:List (S40)} {a1:Int} (h:(typedE l0 0).1≠0):putN l0 a1 = (⟨#[]⟩,⟨#[]⟩,(typedE l0 0).1):=by
  have e:putNE l0 a1 = (typedE l0 0).1:=by unfold putNE;rw [if_pos h]
  unfold putN;rw [e,if_pos h]
theorem putN_e2 {l0:List (S40)} {a1:Int} (h:(typedE l0 0).1 = 0) (h2:(checkP l0 a1).1≠0):putN l0 a1 = (⟨#[]⟩,⟨#[]⟩,(checkP l0 a1).1):=by
  have e:putNE l0 a1 = (checkP l0 a1).1:=by unfold putNE;rw [if_neg (by simpa using h),if_pos h2]
  unfold putN;rw [e,if_pos h2]
theorem putN_e3 {l0:List (S40)} {a1:Int} (h:(typedE l0 0).1 = 0) (h2:(checkP l0 a1).1 = 0) (h3:isB l0 a1 = false):putN l0 a1 = (⟨#[]⟩,⟨#[]⟩,16):=by
  have e:putNE l0 a1 = 16:=by unfold putNE;rw [if_neg (by simpa using h),if_neg (by simpa using h2),if_pos h3]
  unfold putN;rw [e,if_pos (by decide)]
theorem putNE_zero {l0:List (S40)} {a1:Int} (h:(typedE l0 0).1 = 0) (h2:(checkP l0 a1).1 = 0) (h3:isB l0 a1 = true):putNE l0 a1 = 0:=by
  unfold putNE;rw [if_neg (by simpa using h),if_neg (by simpa using h2),if_neg (by simpa using h3)]
theorem putN_e4 {l0:List (S40)} {a1:Int} (h:putNE l0 a1 = 0):putN l0 a1 = (tabB (recB 0 (Cur.put l0.length) [] l0).2,(recB 0 (Cur.put l0.length) [] l0).1,0):=by
  unfold putN;rw [if_neg (by simpa using h)]
theorem putN_ok {l0:List (S40)} {a1:Int} (hn:l0.length≤1000000) (hE:((kidsI l0).map List.length).sum≤1000000) (h:putNE l0 a1 = 0) :
    ∃ b:ByteArray,putN l0 a1 = (tabB (tabOf [] (txs l0)),b,0)∧Cur.bl b = enc l0.length ++ recsN (tabOf [] (txs l0)) 0 l0:=by
  obtain ⟨h1,_⟩:=puts_of hn hE h
  obtain ⟨e1,e2⟩:=recB_all l0 0 (Cur.put l0.length) [] h1 List.nodup_nil
  refine ⟨(recB 0 (Cur.put l0.length) [] l0).1,?_,by rw [e2,Cur.bl_put]⟩
  unfold putN
  rw [if_neg (by simpa using h),e1]
end Go.Proofs.YtoigkneoaemcfaaDoor.Nd
