import Derived.Test.YtoigkneoaemcfaaDoorNoM6
import Derived.Test.YtoigkneoaemcfaaDoorNoM7
namespace Go.Proofs.YtoigkneoaemcfaaDoor.Rec
open Go.RowKit Go.Lib Go.Proofs.YtoigkneoaemcfaaDoorW.PrintWords Go.Proofs.YtoigkneoaemcfaaDoorW.PrintLast Go.Proofs.YtoigkneoaemcfaaDoorW.PrintMore Go.Proofs.YtoigkneoaemcfaaDoor.B Go.Proofs.YtoigkneoaemcfaaDoor.Tab Go.Proofs.YtoigkneoaemcfaaDoor.VM Go.Proofs.YtoigkneoaemcfaaDoor.GN
set_option linter.unusedVariables false
set_option linter.unusedSimpArgs false
def nodeE (k:Int) (l1:List Int) (l2:List ByteArray) (l3:List Int):Int:=if (newS k).2.2.2.2 = true then chk l1 l2 l3 (newS k).1 (newS k).2.1 (newS k).2.2.1 (newS k).2.2.2.1 else 9
def kidsE (at':Int) (l3:List Int):Bool:=l3.any fun q => decide (q < 0 ∨ at'≤q)
def putE (k:Int) (l1:List Int) (l2:List ByteArray) (l3:List Int) (at':Int):Int:=if nodeE k l1 l2 l3≠0 then nodeE k l1 l2 l3 else if kidsE at' l3 = true then 13 else 0
def bI (o:ByteArray):List Int→ByteArray
  | [] => o
  | x :: l => bI (o ++ Cur.put (Cur.zg x).toNat) l
def bT (o:ByteArray) (L:List ByteArray):List ByteArray→ByteArray × List ByteArray
  | [] => (o,L)
  | s :: l => bT (o ++ Cur.put (intern L s).2) (intern L s).1 l
def bK (at':Int) (o:ByteArray):List Int→ByteArray
  | [] => o
  | q :: l => bK at' (o ++ Cur.put (at' - q).toNat) l
def putO (k:Int) (l1:List Int) (l2:List ByteArray) (l3:List Int) (at':Int) (L:List ByteArray):ByteArray × List ByteArray :=
  (bK at' ((bT (bI (Cur.put k.toNat) l1) L l2).1 ++ Cur.put l3.length) l3,(bT (bI (Cur.put k.toNat) l1) L l2).2)
def putR (k:Int) (l1:List Int) (l2:List ByteArray) (l3:List Int) (at':Int) (L:List ByteArray):ByteArray × List ByteArray × Int :=
  if putE k l1 l2 l3 at'≠0 then (⟨#[]⟩,L,putE k l1 l2 l3 at') else ((putO k l1 l2 l3 at' L).1,(putO k l1 l2 l3 at' L).2,0)
def encI (l:List Int):List Nat:=l.flatMap fun x => enc (Cur.zg x).toNat
def encN (l:List Nat):List Nat:=l.flatMap enc
def encK (at':Int) (l:List Int):List Nat:=l.flatMap fun q => enc (at' - q).toNat
theorem encI_cons (x:Int) (l:List Int):encI (x :: l) = enc (Cur.zg x).toNat ++ encI l:=by simp [encI]
theorem encN_cons (x:Nat) (l:List Nat):encN (x :: l) = enc x ++ encN l:=by simp [encN]
theorem encK_cons (at' x:Int) (l:List Int):encK at' (x :: l) = enc (at' - x).toNat ++ encK at' l:=by simp [encK]
def ids (L:List ByteArray):List ByteArray→List Nat
  | [] => []
  | s :: l => (intern L s).2 :: ids (intern L s).1 l
def tabOf (L:List ByteArray):List ByteArray→List ByteArray
  | [] => L
  | s :: l => tabOf (intern L s).1 l
theorem bl_bI:∀ (l:List Int) (o:ByteArray),Cur.bl (bI o l) = Cur.bl o ++ encI l
  | [],o => by simp [bI,encI]
  | x :: l,o => by rw [bI,bl_bI l,Cur.append_bl,Cur.bl_put,encI_cons,List.append_assoc]
theorem bl_bT:∀ (l:List ByteArray) (o:ByteArray) (L:List ByteArray),Cur.bl (bT o L l).1 = Cur.bl o ++ encN (ids L l)
  | [],o,L => by simp [bT,ids,encN]
  | x :: l,o,L => by rw [bT,bl_bT l,Cur.append_bl,Cur.bl_put,ids,encN_cons,List.append_assoc]
theorem bT_tab:∀ (l:List ByteArray) (o:ByteArray) (L:List ByteArray),(bT o L l).2 = tabOf L l
  | [],o,L => rfl
  | x :: l,o,L => by rw [bT,bT_tab l];rfl
theorem bl_bK (at':Int):∀ (l:List Int) (o:ByteArray),Cur.bl (bK at' o l) = Cur.bl o ++ encK at' l
  | [],o => by simp [bK,encK]
  | x :: l,o => by rw [bK,bl_bK at' l,Cur.append_bl,Cur.bl_put,encK_cons,List.append_assoc]
def recI (k:Int) (l1:List Int) (is:List Nat) (l3:List Int) (at':Int):List Nat:=enc k.toNat ++ (encI l1 ++ (encN is ++ (enc l3.length ++ encK at' l3)))
theorem putO_bl (k:Int) (l1:List Int) (l2:List ByteArray) (l3:List Int) (at':Int) (L:List ByteArray):Cur.bl (putO k l1 l2 l3 at' L).1 = recI k l1 (ids L l2) l3 at':=by
  unfold putO recI
  simp only
  rw [bl_bK,Cur.append_bl,Cur.bl_put,bl_bT,bl_bI,Cur.bl_put]
  simp only [List.append_assoc]
theorem putO_tab (k:Int) (l1:List Int) (l2:List ByteArray) (l3:List Int) (at':Int) (L:List ByteArray):(putO k l1 l2 l3 at' L).2 = tabOf L l2:=bT_tab _ _ _
theorem intern_pre (L:List ByteArray) (s:ByteArray):∃ suf,(intern L s).1 = L ++ suf:=by
  unfold intern;split
  · exact ⟨[],by simp⟩
  · exact ⟨[s],rfl⟩
theorem tabOf_pre:∀ (l L:List ByteArray),∃ suf,tabOf L l = L ++ suf
  | [],L => ⟨[],by simp [tabOf]⟩
  | s :: l,L => by
    obtain ⟨x,hx⟩:=intern_pre L s
    obtain ⟨y,hy⟩:=tabOf_pre l (intern L s).1
    exact ⟨x ++ y,by rw [tabOf,hy,hx,List.append_assoc]⟩
theorem tabOf_nodup:∀ (l L:List ByteArray),L.Nodup→(tabOf L l).Nodup
  | [],L,h => h
  | s :: l,L,h => by rw [tabOf];exact tabOf_nodup l _ (intern_nodup s h)
theorem tabOf_len:∀ (l L:List ByteArray),(tabOf L l).length≤L.length+l.length
  | [],L => by simp [tabOf]
  | s :: l,L => by
    have h1:=tabOf_len l (intern L s).1
    have h2:=(intern_len L s).1
    rw [tabOf,List.length_cons];omega
theorem tabOf_total:∀ (l L:List ByteArray),total (tabOf L l)≤total L+total l
  | [],L => by simp [tabOf,total]
  | s :: l,L => by
    have h1:=tabOf_total l (intern L s).1
    have h2:=intern_total L s
    rw [tabOf,total_cons];omega
theorem tabOf_append:∀ (l m L:List ByteArray),tabOf L (l ++ m) = tabOf (tabOf L l) m
  | [],m,L => rfl
  | s :: l,m,L => by rw [List.cons_append,tabOf,tabOf_append l m];rfl
theorem getD_pre {L suf:List ByteArray} {i:Nat} (h:i < L.length):(L ++ suf).getD i ⟨#[]⟩ = L.getD i ⟨#[]⟩:=by
  rw [List.getD_eq_getElem?_getD,List.getElem?_append_left h,← List.getD_eq_getElem?_getD]
theorem ids_len:∀ (l L:List ByteArray),(ids L l).length = l.length
  | [],L => rfl
  | s :: l,L => by rw [ids,List.length_cons,ids_len l,List.length_cons]
theorem ids_get:∀ (l L suf:List ByteArray),(∀ i ∈ ids L l,i < (tabOf L l ++ suf).length)∧(ids L l).map (fun i => (tabOf L l ++ suf).getD i ⟨#[]⟩) = l
  | [],L,suf => ⟨by simp [ids],rfl⟩
  | s :: l,L,suf => by
    obtain ⟨h1,h2⟩:=ids_get l (intern L s).1 suf
    obtain ⟨x,hx⟩:=tabOf_pre l (intern L s).1
    have h3:=intern_lt L s
    have h4:=intern_get L s
    have h5:(intern L s).2 < (tabOf (intern L s).1 l ++ suf).length:=by rw [hx,List.length_append,List.length_append];omega
    rw [ids,tabOf]
    refine ⟨fun i hi => ?_,?_⟩
    · rcases List.mem_cons.1 hi with rfl | hi
      · exact h5
      · exact h1 i hi
    · rw [List.map_cons,h2]
      congr 1
      rw [hx,List.append_assoc,getD_pre h3,h4]
def ownI:List Int→Cur.Cur→List Int→Cur.Cur × List Int
  | [],c,a => (c,a)
  | q :: qs,c,a => if c.e≠0 then (c,a) else ownI qs (if inB q c.int.1 = true then c.int.2 else c.int.2.fail 10) (a ++ [c.int.1])
def ownT (L:List ByteArray):Nat→Cur.Cur→List ByteArray→Cur.Cur × List ByteArray
  | 0,c,a => (c,a)
  | n+1,c,a => if c.e≠0 then (c,a) else ownT L n (if (atT L (c.uint 16777216).1).2 = true then (c.uint 16777216).2 else (c.uint 16777216).2.fail 13) (a ++ [(atT L (c.uint 16777216).1).1])
def ownK (at':Int):Nat→Cur.Cur→List Int→Cur.Cur × List Int
  | 0,c,a => (c,a)
  | n+1,c,a => if c.e≠0 then (c,a) else ownK at' n (if (c.uint 16777216).1 < 1 ∨ at' < (c.uint 16777216).1 then (c.uint 16777216).2.fail 13 else (c.uint 16777216).2) (a ++ [at' - (c.uint 16777216).1])
theorem ownI_err (qs:List Int) {c:Cur.Cur} (a:List Int) (h:c.e≠0):ownI qs c a = (c,a):=by
  cases qs with
  | nil => rfl
  | cons q qs => rw [ownI,if_pos h]
theorem ownT_err (L:List ByteArray) (n:Nat) {c:Cur.Cur} (a:List ByteArray) (h:c.e≠0):ownT L n c a = (c,a):=by
  cases n with
  | zero => rfl
  | succ n => rw [ownT,if_pos h]
theorem ownK_err (at':Int) (n:Nat) {c:Cur.Cur} (a:List Int) (h:c.e≠0):ownK at' n c a = (c,a):=by
  cases n with
  | zero => rfl
  | succ n => rw [ownK,if_pos h]
def getI (k:Int) (c:Cur.Cur):Cur.Cur × List Int:=ownI (newS k).1 c []
def getT (k:Int) (L:List ByteArray) (c:Cur.Cur):Cur.Cur × List ByteArray:=ownT L (newS k).2.1.toNat (getI k c).1 []
def cntC (k edges:Int) (c:Cur.Cur):Cur.Cur:=if (c.uint (max edges 0)).1 < (newS k).2.2.1 ∨ (0≤(newS k).2.2.2.1∧(newS k).2.2.2.1 < (c.uint (max edges 0)).1) then (c.uint (max edges 0)).2.fail 12 else (c.uint (max edges 0)).2
def getK (k at' edges:Int) (c:Cur.Cur):Cur.Cur × List Int:=ownK at' (c.uint (max edges 0)).1.toNat (cntC k edges c) []
def getR (at' edges:Int) (L:List ByteArray) (c:Cur.Cur):Cur.Cur × Int × List Int × List ByteArray × List Int :=
  if (newS (c.uint 16777216).1).2.2.2.2 = true then
    (if (getK (c.uint 16777216).1 at' edges (getT (c.uint 16777216).1 L (c.uint 16777216).2).1).1.e≠0 then ((getK (c.uint 16777216).1 at' edges (getT (c.uint 16777216).1 L (c.uint 16777216).2).1).1,0,[],[],[])
     else ((getK (c.uint 16777216).1 at' edges (getT (c.uint 16777216).1 L (c.uint 16777216).2).1).1,(c.uint 16777216).1,(getI (c.uint 16777216).1 (c.uint 16777216).2).2,(getT (c.uint 16777216).1 L (c.uint 16777216).2).2,(getK (c.uint 16777216).1 at' edges (getT (c.uint 16777216).1 L (c.uint 16777216).2).1).2))
  else ((c.uint 16777216).2.fail 9,0,[],[],[])
theorem atT_in {L:List ByteArray} {i:Nat} (h:i < L.length):atT L (i:Int) = (L.getD i ⟨#[]⟩,true):=by unfold atT;rw [if_pos (by omega),Int.toNat_natCast]
def I64 (l:List Int):Prop:=∀ x ∈ l,-9223372036854775808≤x∧x≤9223372036854775807
theorem ownI_put (b:ByteArray):∀ (qs ns:List Int) (pre post:List Nat) (a:List Int),qs.length = ns.length→allIn qs ns = true→I64 ns→Cur.bl b = pre ++ (encI ns ++ post)→ownI qs ⟨b,pre.length,0⟩ a = (⟨b,(pre ++ encI ns).length,0⟩,a ++ ns)
  | [],[],pre,post,a,_,_,_,_ => by simp [ownI,encI]
  | q :: qs,n :: ns,pre,post,a,h1,h2,h3,hb => by
    have hz:=Cur.zg_nonneg n
    have hr:=h3 n List.mem_cons_self
    have hlt:(Cur.zg n).toNat < 18446744073709551616:=by unfold Cur.zg at hz ⊢;split <;> omega
    rw [encI_cons] at hb
    rw [allIn,Bool.and_eq_true] at h2
    have hgt:=Cur.gt_put b pre.length (Cur.zg n).toNat pre (encI ns ++ post) hlt (by rw [hb,List.append_assoc]) rfl
    have hi:=Cur.int_of (c:=⟨b,pre.length,0⟩) rfl hgt
    rw [Int.toNat_of_nonneg hz,Cur.zag_zg] at hi
    have ih:=ownI_put b qs ns (pre ++ enc (Cur.zg n).toNat) post (a ++ [n]) (by simpa using h1) h2.2 (fun x hx => h3 x (List.mem_cons_of_mem _ hx)) (by rw [hb];simp only [List.append_assoc])
    rw [ownI,if_neg (by simp),hi]
    simp only
    rw [if_pos h2.1]
    simp only [List.length_append,encI_cons,List.append_assoc,List.singleton_append] at ih ⊢
    exact ih
theorem ownT_put (b:ByteArray) (L:List ByteArray) (hL:L.length≤16777216):∀ (is:List Nat) (pre post:List Nat) (a:List ByteArray),(∀ i ∈ is,i < L.length)→Cur.bl b = pre ++ (encN is ++ post)→ownT L is.length ⟨b,pre.length,0⟩ a = (⟨b,(pre ++ encN is).length,0⟩,a ++ is.map fun i => L.getD i ⟨#[]⟩)
  | [],pre,post,a,_,_ => by simp [ownT,encN]
  | i :: is,pre,post,a,h1,hb => by
    have hi:=h1 i List.mem_cons_self
    rw [encN_cons] at hb
    have hgt:=Cur.gt_put b pre.length i pre (encN is ++ post) (by omega) (by rw [hb,List.append_assoc]) rfl
    have hu:=Cur.uint_of (c:=⟨b,pre.length,0⟩) (most:=16777216) rfl hgt (by omega) (by omega)
    have ih:=ownT_put b L hL is (pre ++ enc i) post (a ++ [L.getD i ⟨#[]⟩]) (fun x hx => h1 x (List.mem_cons_of_mem _ hx)) (by rw [hb];simp only [List.append_assoc])
    rw [List.length_cons,ownT,if_neg (by simp),hu]
    simp only
    rw [atT_in hi,if_pos rfl]
    simp only [List.length_append,encN_cons,List.append_assoc,List.singleton_append,List.map_cons] at ih ⊢
    exact ih
theorem ownK_put (b:ByteArray) (at':Int) (ha:at'≤16777216):∀ (ns:List Int) (pre post:List Nat) (a:List Int),kidsE at' ns = false→Cur.bl b = pre ++ (encK at' ns ++ post)→ownK at' ns.length ⟨b,pre.length,0⟩ a = (⟨b,(pre ++ encK at' ns).length,0⟩,a ++ ns)
  | [],pre,post,a,_,_ => by simp [ownK,encK]
  | q :: ns,pre,post,a,h1,hb => by
    unfold kidsE at h1
    rw [List.any_cons,Bool.or_eq_false_iff] at h1
    have hq:=of_decide_eq_false h1.1
    rw [encK_cons] at hb
    have hgt:=Cur.gt_put b pre.length (at' - q).toNat pre (encK at' ns ++ post) (by omega) (by rw [hb,List.append_assoc]) rfl
    have hu:=Cur.uint_of (c:=⟨b,pre.length,0⟩) (most:=16777216) rfl hgt (by omega) (by omega)
    rw [Int.toNat_of_nonneg (by omega)] at hu
    have ih:=ownK_put b at' ha ns (pre ++ enc (at' - q).toNat) post (a ++ [q]) h1.2 (by rw [hb];simp only [List.append_assoc])
    rw [List.length_cons,ownK,if_neg (by simp),hu]
    simp only
    rw [if_neg (by omega),show at' - (at' - q) = q by omega]
    simp only [List.length_append,encK_cons,List.append_assoc,List.singleton_append] at ih ⊢
    exact ih
theorem newS_ok {k:Int} (h:(newS k).2.2.2.2 = true):1≤k∧k≤8∧0≤(newS k).2.1∧(newS k).2.1≤2∧(newS k).1.length≤4∧0≤(newS k).2.2.1:=by
  unfold newS at h ⊢
  repeat' split
  all_goals first | (refine ⟨by omega,by omega,?_,?_,?_,?_⟩ <;> simp;done) | (simp_all;done)
structure Good (k:Int) (l1:List Int) (l2:List ByteArray) (l3:List Int):Prop where
  ok:(newS k).2.2.2.2 = true
  n1:l1.length = (newS k).1.length
  i1:allIn (newS k).1 l1 = true
  n2:(l2.length:Int) = (newS k).2.1
  n3:(newS k).2.2.1≤(l3.length:Int)∧¬ (0≤(newS k).2.2.2.1∧(newS k).2.2.2.1 < (l3.length:Int))
theorem good_of {k:Int} {l1:List Int} {l2:List ByteArray} {l3:List Int} (h:nodeE k l1 l2 l3 = 0):Good k l1 l2 l3∧l2.any badT = false:=by
  unfold nodeE at h
  split at h
  · rename_i hk
    unfold chk kidsV at h
    repeat' split at h
    all_goals first | (exact absurd h (by decide)) | skip
    rename_i a1 a2 a3 a4 a5 a6
    refine ⟨⟨hk,by simpa using a1,by simpa using a2,by simpa using a3,by omega,a6⟩,by simpa using a4⟩
  · exact absurd h (by decide)
theorem of_good {k:Int} {l1:List Int} {l2:List ByteArray} {l3:List Int} (h:Good k l1 l2 l3) (hb:l2.any badT = false):nodeE k l1 l2 l3 = 0:=by
  unfold nodeE chk kidsV
  rw [if_pos h.ok,if_neg (by simpa using h.n1),if_neg (by simpa using h.i1),if_neg (by simpa using h.n2),if_neg (by simpa using hb),if_neg (by have:=h.n3.1;omega),if_neg h.n3.2]
theorem putE_zero {k:Int} {l1:List Int} {l2:List ByteArray} {l3:List Int} {at':Int}:putE k l1 l2 l3 at' = 0↔nodeE k l1 l2 l3 = 0∧kidsE at' l3 = false:=by
  unfold putE
  by_cases h:nodeE k l1 l2 l3 = 0
  · rw [if_neg (by simpa using h)]
    cases kidsE at' l3 <;> simp [h]
  · rw [if_pos h]
    simp [h]
theorem getR_put (b:ByteArray) (k:Int) (l1:List Int) (l2:List ByteArray) (l3:List Int) (at' edges:Int) (L:List ByteArray) (is:List Nat) (pre post:List Nat) (hG:Good k l1 l2 l3) (hK:kidsE at' l3 = false) (hi:I64 l1) (ha:at'≤16777216) (hL:L.length≤16777216) (hl3:l3.length≤16777216)
    (his:∀ i ∈ is,i < L.length) (hm:is.map (fun i => L.getD i ⟨#[]⟩) = l2) (he:(l3.length:Int)≤edges) (hb:Cur.bl b = pre ++ (recI k l1 is l3 at' ++ post)) :
    getR at' edges L ⟨b,pre.length,0⟩ = (⟨b,(pre ++ recI k l1 is l3 at').length,0⟩,k,l1,l2,l3):=by
  obtain ⟨k0,k1,t0,t1,_,_⟩:=newS_ok hG.ok
  have hlen:is.length = l2.length:=by rw [← hm,List.length_map]
  unfold recI at hb ⊢
  have hgt:=Cur.gt_put b pre.length k.toNat pre (encI l1 ++ (encN is ++ (enc l3.length ++ encK at' l3)) ++ post) (by omega) (by rw [hb];simp only [List.append_assoc]) rfl
  have hu:=Cur.uint_of (c:=⟨b,pre.length,0⟩) (most:=16777216) rfl hgt (by omega) (by omega)
  rw [Int.toNat_of_nonneg (by omega)] at hu
  simp only at hu
  have hI:=ownI_put b (newS k).1 l1 (pre ++ enc k.toNat) (encN is ++ (enc l3.length ++ encK at' l3) ++ post) [] hG.n1.symm hG.i1 hi (by rw [hb];simp only [List.append_assoc])
  have hT:=ownT_put b L hL is (pre ++ enc k.toNat ++ encI l1) ((enc l3.length ++ encK at' l3) ++ post) [] his (by rw [hb];simp only [List.append_assoc])
  have hgt3:=Cur.gt_put b (pre ++ enc k.toNat ++ encI l1 ++ encN is).length l3.length (pre ++ enc k.toNat ++ encI l1 ++ encN is) (encK at' l3 ++ post) (by omega) (by rw [hb];simp only [List.append_assoc]) rfl
  have hu3:=Cur.uint_of (c:=⟨b,(pre ++ enc k.toNat ++ encI l1 ++ encN is).length,0⟩) (most:=max edges 0) rfl hgt3 (by omega) (by omega)
  simp only at hu3
  have hKK:=ownK_put b at' ha l3 (pre ++ enc k.toNat ++ encI l1 ++ encN is ++ enc l3.length) post [] hK (by rw [hb];simp only [List.append_assoc])
  rw [hm,List.nil_append] at hT
  rw [List.nil_append] at hI hKK
  have e1:(newS k).2.1.toNat = is.length:=by rw [hlen,← hG.n2];omega
  have hgI:getI k ⟨b,(pre ++ enc k.toNat).length,0⟩ = (⟨b,(pre ++ enc k.toNat ++ encI l1).length,0⟩,l1):=hI
  have hgT:getT k L ⟨b,(pre ++ enc k.toNat).length,0⟩ = (⟨b,(pre ++ enc k.toNat ++ encI l1 ++ encN is).length,0⟩,l2):=by unfold getT;rw [hgI,e1];exact hT
  have hgC:cntC k edges ⟨b,(pre ++ enc k.toNat ++ encI l1 ++ encN is).length,0⟩ = ⟨b,(pre ++ enc k.toNat ++ encI l1 ++ encN is ++ enc l3.length).length,0⟩:=by
    unfold cntC
    rw [hu3]
    simp only
    rw [if_neg (by have:=hG.n3;omega),List.length_append (bs:=enc l3.length)]
  have hgK:getK k at' edges ⟨b,(pre ++ enc k.toNat ++ encI l1 ++ encN is).length,0⟩ = (⟨b,(pre ++ enc k.toNat ++ encI l1 ++ encN is ++ enc l3.length ++ encK at' l3).length,0⟩,l3):=by
    unfold getK
    rw [hgC,hu3,Int.toNat_natCast]
    exact hKK
  unfold getR
  rw [hu]
  simp only
  rw [← List.length_append,if_pos hG.ok,hgI,hgT]
  simp only
  rw [hgK,if_neg (by simp)]
  simp only [List.append_assoc]
theorem uint_le {c:Cur.Cur} (h:c.at'≤c.b.size) (m:Int):(c.uint m).2.at'≤(c.uint m).2.b.size:=by
  have hg:=Cur.gt_cases c.b c.at'
  unfold Cur.Cur.uint
  repeat' split
  all_goals try exact h
  rcases hg with ⟨v,n,e,h3,h4,_⟩ | e | e
  all_goals (rw [e];simp only;omega)
theorem int_le {c:Cur.Cur} (h:c.at'≤c.b.size):c.int.2.at'≤c.int.2.b.size:=by
  have hg:=Cur.gt_cases c.b c.at'
  unfold Cur.Cur.int
  repeat' split
  all_goals try exact h
  rcases hg with ⟨v,n,e,h3,h4,_⟩ | e | e
  all_goals (rw [e];simp only;omega)
theorem fail_ne (c:Cur.Cur) {k:Int} (hk:k≠0):(c.fail k).e≠0:=by unfold Cur.Cur.fail;split <;> simp_all
theorem zg_zag (v:Nat):(Cur.zg (Cur.zag v)).toNat = v:=by unfold Cur.zg Cur.zag;split <;> split <;> omega
theorem ownI_inv:∀ (qs:List Int) (c:Cur.Cur) (a:List Int),c.at'≤c.b.size→(ownI qs c a).1.e = 0→c.e = 0∧∃ ns q,ownI qs c a = (⟨c.b,q,0⟩,a ++ ns)∧ns.length = qs.length∧allIn qs ns = true∧I64 ns∧c.at'≤q∧q≤c.b.size∧(Cur.bl c.b).take q = (Cur.bl c.b).take c.at' ++ encI ns
  | [],c,a,hc,h => by
    have h:c.e = 0:=h
    refine ⟨h,[],c.at',?_,rfl,rfl,fun x hx => (by cases hx),Nat.le_refl _,hc,by simp [encI]⟩
    cases c;simp only at h;subst h;simp [ownI]
  | q :: qs,c,a,hc,h => by
    by_cases he:c.e = 0
    · rw [ownI,if_neg (by simpa using he)] at h ⊢
      refine ⟨he,?_⟩
      by_cases hin:inB q c.int.1 = true
      · rw [if_pos hin] at h ⊢
        obtain ⟨ie,ns,q2,i1,i2,i3,i4,i5,i6,i7⟩:=ownI_inv qs c.int.2 (a ++ [c.int.1]) (int_le hc) h
        obtain ⟨_,v,n,u1,u2,u3,u4,u5,u6⟩:=Cur.int_inv ie
        rw [u1] at i1 i5 i6 i7 hin ⊢
        simp only at i1 i5 i6 i7 hin ⊢
        refine ⟨Cur.zag v :: ns,q2,by rw [i1];simp,by simp [i2],by rw [allIn,hin,i3];rfl,fun x hx => ?_,by omega,i6,?_⟩
        · rcases List.mem_cons.1 hx with rfl | hx
          · unfold Cur.zag;split <;> omega
          · exact i4 x hx
        · rw [i7,encI_cons,zg_zag,u2,Cur.take_more,List.append_assoc]
      · rw [if_neg hin,ownI_err _ _ (fail_ne _ (by decide))] at h
        exact absurd h (fail_ne _ (by decide))
    · rw [ownI_err _ _ he] at h;exact absurd h he
theorem ownT_inv (L:List ByteArray):∀ (m:Nat) (c:Cur.Cur) (a:List ByteArray),c.at'≤c.b.size→(ownT L m c a).1.e = 0→c.e = 0∧∃ is q,ownT L m c a = (⟨c.b,q,0⟩,a ++ is.map fun i => L.getD i ⟨#[]⟩)∧is.length = m∧(∀ i ∈ is,i < L.length)∧c.at'≤q∧q≤c.b.size∧(Cur.bl c.b).take q = (Cur.bl c.b).take c.at' ++ encN is
  | 0,c,a,hc,h => by
    have h:c.e = 0:=h
    refine ⟨h,[],c.at',?_,rfl,fun x hx => (by cases hx),Nat.le_refl _,hc,by simp [encN]⟩
    cases c;simp only at h;subst h;simp [ownT]
  | m+1,c,a,hc,h => by
    by_cases he:c.e = 0
    · rw [ownT,if_neg (by simpa using he)] at h ⊢
      refine ⟨he,?_⟩
      by_cases hin:(atT L (c.uint 16777216).1).2 = true
      · rw [if_pos hin] at h ⊢
        obtain ⟨ie,is,q2,i1,i2,i3,i5,i6,i7⟩:=ownT_inv L m (c.uint 16777216).2 (a ++ [(atT L (c.uint 16777216).1).1]) (uint_le hc _) h
        obtain ⟨_,v,n,u1,u2,u3,u4,u5,u6,u7⟩:=Cur.uint_inv ie
        rw [u1] at i1 i5 i6 i7 hin ⊢
        simp only at i1 i5 i6 i7 hin ⊢
        have hv:v < L.length:=by
          unfold atT at hin
          split at hin
          · rename_i hh;omega
          · cases hin
        rw [atT_in hv] at i1 ⊢
        refine ⟨v :: is,q2,by rw [i1];simp,by simp [i2],fun i hi => ?_,by omega,i6,?_⟩
        · rcases List.mem_cons.1 hi with rfl | hi
          · exact hv
          · exact i3 i hi
        · rw [i7,encN_cons,u2,Cur.take_more,List.append_assoc]
      · rw [if_neg hin,ownT_err _ _ _ (fail_ne _ (by decide))] at h
        exact absurd h (fail_ne _ (by decide))
    · rw [ownT_err _ _ _ he] at h;exact absurd h he
theorem ownK_inv (at':Int):∀ (m:Nat) (c:Cur.Cur) (a:List Int),c.at'≤c.b.size→(ownK at' m c a).1.e = 0→c.e = 0∧∃ ns q,ownK at' m c a = (⟨c.b,q,0⟩,a ++ ns)∧ns.length = m∧kidsE at' ns = false∧c.at'≤q∧q≤c.b.size∧(Cur.bl c.b).take q = (Cur.bl c.b).take c.at' ++ encK at' ns
  | 0,c,a,hc,h => by
    have h:c.e = 0:=h
    refine ⟨h,[],c.at',?_,rfl,rfl,Nat.le_refl _,hc,by simp [encK]⟩
    cases c;simp only at h;subst h;simp [ownK]
  | m+1,c,a,hc,h => by
    by_cases he:c.e = 0
    · rw [ownK,if_neg (by simpa using he)] at h ⊢
      refine ⟨he,?_⟩
      by_cases hin:(c.uint 16777216).1 < 1 ∨ at' < (c.uint 16777216).1
      · rw [if_pos hin,ownK_err _ _ _ (fail_ne _ (by decide))] at h
        exact absurd h (fail_ne _ (by decide))
      · rw [if_neg hin] at h ⊢
        obtain ⟨ie,ns,q2,i1,i2,i3,i5,i6,i7⟩:=ownK_inv at' m (c.uint 16777216).2 (a ++ [at' - (c.uint 16777216).1]) (uint_le hc _) h
        obtain ⟨_,v,n,u1,u2,u3,u4,u5,u6,u7⟩:=Cur.uint_inv ie
        rw [u1] at i1 i5 i6 i7 hin ⊢
        simp only at i1 i5 i6 i7 hin ⊢
        refine ⟨(at' - v) :: ns,q2,by rw [i1];simp,by simp [i2],?_,by omega,i6,?_⟩
        · unfold kidsE at i3 ⊢
          rw [List.any_cons,i3,Bool.or_false]
          exact decide_eq_false (by omega)
        · rw [i7,encK_cons,show (at' - (at' - (v:Int))).toNat = v by omega,u2,Cur.take_more,List.append_assoc]
    · rw [ownK_err _ _ _ he] at h;exact absurd h he
theorem getR_inv {at' edges:Int} {L:List ByteArray} {c:Cur.Cur} (hc:c.at'≤c.b.size) (h:(getR at' edges L c).1.e = 0) :
    c.e = 0∧∃ k l1 is l3 q,getR at' edges L c = (⟨c.b,q,0⟩,k,l1,is.map (fun i => L.getD i ⟨#[]⟩),l3)∧Good k l1 (is.map fun i => L.getD i ⟨#[]⟩) l3∧kidsE at' l3 = false∧I64 l1∧(∀ i ∈ is,i < L.length)∧(l3.length:Int)≤max edges 0∧l3.length≤16777216 ∧
      c.at' < q∧q≤c.b.size∧(Cur.bl c.b).take q = (Cur.bl c.b).take c.at' ++ recI k l1 is l3 at':=by
  unfold getR at h ⊢
  by_cases hk:(newS (c.uint 16777216).1).2.2.2.2 = true
  · rw [if_pos hk] at h ⊢
    by_cases hne:(getK (c.uint 16777216).1 at' edges (getT (c.uint 16777216).1 L (c.uint 16777216).2).1).1.e≠0
    · rw [if_pos hne] at h;exact absurd h hne
    rw [if_neg hne] at h ⊢
    have hK0:(getK (c.uint 16777216).1 at' edges (getT (c.uint 16777216).1 L (c.uint 16777216).2).1).1.e = 0:=by simpa using hne
    clear h hne
    have hc1:=uint_le hc 16777216
    have hu0:=Cur.uint_inv (c:=c) (m:=16777216)
    have hub:=Cur.uint_b (c:=c) 16777216
    generalize hk1:(c.uint 16777216).1 = k at *
    generalize hc1':(c.uint 16777216).2 = c1 at *
    obtain ⟨k0,k1,t0,t1,s0,s1⟩:=newS_ok hk
    unfold getK at hK0 ⊢
    have hfin:∀ cx:Cur.Cur,cx.at'≤cx.b.size→(cntC k edges cx).e = 0→cx.e = 0∧∃ v n:Nat,cx.uint (max edges 0) = ((v:Int),⟨cx.b,cx.at'+n,0⟩)∧cntC k edges cx = ⟨cx.b,cx.at'+n,0⟩∧enc v = ((Cur.bl cx.b).drop cx.at').take n∧cx.at'+n≤cx.b.size∧(v:Int)≤max edges 0∧v≤16777216∧(newS k).2.2.1≤(v:Int)∧¬ (0≤(newS k).2.2.2.1∧(newS k).2.2.2.1 < (v:Int)):=by
      intro cx hx hz
      unfold cntC at hz ⊢
      split at hz
      · exact absurd hz (fail_ne _ (by decide))
      rename_i hr
      rw [if_neg hr]
      obtain ⟨x0,v,n,u1,u2,u3,u4,u5,u6,u7⟩:=Cur.uint_inv hz
      rw [u1] at hr ⊢
      simp only at hr ⊢
      exact ⟨x0,v,n,rfl,rfl,u2,u3,u4,u5,by omega,by omega⟩
    have hTle:(getT k L c1).1.at'≤(getT k L c1).1.b.size ∨ (getT k L c1).1.e≠0:=by
      by_cases hz:(getT k L c1).1.e = 0
      · left
        unfold getT at hz ⊢
        have hIle:(getI k c1).1.at'≤(getI k c1).1.b.size ∨ (getI k c1).1.e≠0:=by
          by_cases hy:(getI k c1).1.e = 0
          · left
            obtain ⟨_,ns,q,i1,_,_,_,_,i6,_⟩:=ownI_inv _ c1 [] hc1 hy
            unfold getI;rw [i1];exact i6
          · exact .inr hy
        rcases hIle with hI | hI
        · obtain ⟨_,is,q,i1,_,_,_,i6,_⟩:=ownT_inv L _ _ [] hI hz
          rw [i1];exact i6
        · rw [ownT_err _ _ _ hI] at hz;exact absurd hz hI
      · exact .inr hz
    have hcn:(cntC k edges (getT k L c1).1).e = 0:=by
      by_cases hz:(cntC k edges (getT k L c1).1).e = 0
      · exact hz
      · rw [ownK_err _ _ _ hz] at hK0;exact absurd hK0 hz
    rcases hTle with hTle | hTne
    rotate_left
    · exfalso
      unfold cntC at hcn
      rw [Cur.uint_stay _ _ hTne] at hcn
      simp only at hcn
      split at hcn
      · exact fail_ne _ (by decide) hcn
      · exact hTne hcn
    obtain ⟨hT0,v,n,f1,f2,f3,f4,f5,f6,f7,f8⟩:=hfin _ hTle hcn
    rw [f2,f1] at hK0 ⊢
    simp only [Int.toNat_natCast] at hK0 ⊢
    obtain ⟨_,l3,q3,g1,g2,g3,g4,g5,g6⟩:=ownK_inv at' v _ [] (by exact f4) hK0
    rw [g1]
    simp only [List.nil_append] at g4 g5 g6 ⊢
    have hT0':=hT0
    unfold getT at hT0
    have hI0:(getI k c1).1.e = 0:=by
      by_cases hz:(getI k c1).1.e = 0
      · exact hz
      · rw [ownT_err _ _ _ hz] at hT0;exact absurd hT0 hz
    obtain ⟨h10,l1,q1,j1,j2,j3,j4,j5,j6,j7⟩:=ownI_inv _ c1 [] hc1 hI0
    have hgI:getI k c1 = (⟨c1.b,q1,0⟩,l1):=by unfold getI;rw [j1,List.nil_append]
    obtain ⟨_,is,q2,m1,m2,m3,m5,m6,m7⟩:=ownT_inv L _ (getI k c1).1 [] (by rw [hgI];exact j6) hT0
    have hgT:getT k L c1 = (⟨c1.b,q2,0⟩,is.map fun i => L.getD i ⟨#[]⟩):=by unfold getT;rw [m1,hgI,List.nil_append]
    rw [hgI] at m5 m6 m7
    rw [hgT] at f3 f4 g4 g5 g6 ⊢
    simp only at m5 m6 m7 f3 f4 g4 g5 g6 ⊢
    obtain ⟨e0,kk,kn,a1,a2,a3,a4,a5,a6,a7⟩:=hu0 h10
    rw [a1] at hk1 hc1'
    simp only at hk1 hc1'
    subst hk1 hc1'
    simp only at *
    refine ⟨e0,(kk:Int),l1,is,l3,q3,by rw [hgI],⟨hk,j2,j3,by rw [List.length_map,m2];omega,by rw [g2];exact ⟨f7,f8⟩⟩,g3,j4,m3,by rw [g2];exact f5,by rw [g2];exact f6,by omega,g5,?_⟩
    rw [g6,Cur.take_more,← f3,m7,j7,Cur.take_more,← a2]
    unfold recI
    rw [g2]
    simp only [Int.toNat_natCast,List.append_assoc]
  · rw [if_neg hk] at h
    exact absurd h (fail_ne _ (by decide))
end Go.Proofs.YtoigkneoaemcfaaDoor.Rec
