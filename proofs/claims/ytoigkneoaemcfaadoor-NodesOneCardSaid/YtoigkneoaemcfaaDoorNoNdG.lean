import Derived.Test.YtoigkneoaemcfaaDoorNoNdP
import Derived.Test.YtoigkneoaemcfaaDoorNoTRef
namespace Go.Proofs.YtoigkneoaemcfaaDoor.Nd
open Go.RowKit Go.Lib Go.Proofs.YtoigkneoaemcfaaDoorW.PrintWords Go.Proofs.YtoigkneoaemcfaaDoorW.PrintLast Go.Proofs.YtoigkneoaemcfaaDoorW.PrintMore Go.Proofs.YtoigkneoaemcfaaDoor.B Go.Proofs.YtoigkneoaemcfaaDoor.Tab Go.Proofs.YtoigkneoaemcfaaDoor.VM Go.Proofs.YtoigkneoaemcfaaDoor.Rec
open Go.Proofs.YtoigkneoaemcfaaDoor.GN (S40 rd_T40 kidsI checkP cl H badT)
set_option linter.unusedVariables false
set_option linter.unusedSimpArgs false
theorem allN_err (L:List ByteArray) (n i:Nat) (e:Int) {c:Cur.Cur} (a:List (S40)) (h:c.e≠0):allN L n i e c a = (c,a):=by
  cases n with
  | zero => rfl
  | succ n => rw [allN,if_pos h]
theorem idx_get {L:List ByteArray}:∀ (l:List ByteArray),(∀ s ∈ l,s ∈ L)→(∀ i ∈ l.map L.idxOf,i < L.length)∧(l.map L.idxOf).map (fun i => L.getD i ⟨#[]⟩) = l
  | [],_ => ⟨by simp,rfl⟩
  | s :: l,h => by
    obtain ⟨h1,h2⟩:=idx_get l (fun x hx => h x (List.mem_cons_of_mem _ hx))
    have hs:=List.idxOf_lt_length_of_mem (h s List.mem_cons_self)
    refine ⟨fun i hi => ?_,?_⟩
    · rw [List.map_cons] at hi
      rcases List.mem_cons.1 hi with rfl | hi
      · exact hs
      · exact h1 i hi
    · rw [List.map_cons,List.map_cons,h2]
      congr 1
      rw [List.getD_eq_getElem?_getD,List.getElem?_eq_getElem hs]
      show L[L.idxOf s] = s
      exact List.getElem_idxOf hs
theorem getR_big (b:ByteArray) (k:Int) (l1:List Int) (l2:List ByteArray) (l3:List Int) (at' edges:Int) (L:List ByteArray) (is:List Nat) (pre post:List Nat) (hG:Rec.Good k l1 l2 l3) (hi:I64 l1) (hL:L.length≤16777216) (hl3:l3.length≤16777216)
    (his:∀ i ∈ is,i < L.length) (hm:is.map (fun i => L.getD i ⟨#[]⟩) = l2) (he:max edges 0 < (l3.length:Int)) (hb:Cur.bl b = pre ++ (recI k l1 is l3 at' ++ post)) :
    (getR at' edges L ⟨b,pre.length,0⟩).1.e = 19:=by
  obtain ⟨k0,k1,t0,t1,_,_⟩:=newS_ok hG.ok
  have hlen:is.length = l2.length:=by rw [← hm,List.length_map]
  unfold recI at hb
  have hgt:=Cur.gt_put b pre.length k.toNat pre (encI l1 ++ (encN is ++ (enc l3.length ++ encK at' l3)) ++ post) (by omega) (by rw [hb];simp only [List.append_assoc]) rfl
  have hu:=Cur.uint_of (c:=⟨b,pre.length,0⟩) (most:=16777216) rfl hgt (by omega) (by omega)
  rw [Int.toNat_of_nonneg (by omega)] at hu
  simp only at hu
  have hI:=ownI_put b (newS k).1 l1 (pre ++ enc k.toNat) (encN is ++ (enc l3.length ++ encK at' l3) ++ post) [] hG.n1.symm hG.i1 hi (by rw [hb];simp only [List.append_assoc])
  have hT:=ownT_put b L hL is (pre ++ enc k.toNat ++ encI l1) ((enc l3.length ++ encK at' l3) ++ post) [] his (by rw [hb];simp only [List.append_assoc])
  have hgt3:=Cur.gt_put b (pre ++ enc k.toNat ++ encI l1 ++ encN is).length l3.length (pre ++ enc k.toNat ++ encI l1 ++ encN is) (encK at' l3 ++ post) (by omega) (by rw [hb];simp only [List.append_assoc]) rfl
  have hu3:=Cur.uint_big (c:=⟨b,(pre ++ enc k.toNat ++ encI l1 ++ encN is).length,0⟩) (most:=max edges 0) rfl hgt3 (.inl (by omega))
  simp only at hu3
  rw [hm,List.nil_append] at hT
  rw [List.nil_append] at hI
  have e1:(newS k).2.1.toNat = is.length:=by rw [hlen,← hG.n2];omega
  have hgI:getI k ⟨b,(pre ++ enc k.toNat).length,0⟩ = (⟨b,(pre ++ enc k.toNat ++ encI l1).length,0⟩,l1):=hI
  have hgT:getT k L ⟨b,(pre ++ enc k.toNat).length,0⟩ = (⟨b,(pre ++ enc k.toNat ++ encI l1 ++ encN is).length,0⟩,l2):=by unfold getT;rw [hgI,e1];exact hT
  have hgC:(cntC k edges ⟨b,(pre ++ enc k.toNat ++ encI l1 ++ encN is).length,0⟩).e = 19:=by
    unfold cntC
    rw [hu3]
    simp only
    split
    · rw [Cur.fail_e (by simp)]
    · rfl
  have hgK:(getK k at' edges ⟨b,(pre ++ enc k.toNat ++ encI l1 ++ encN is).length,0⟩).1.e = 19:=by
    unfold getK
    rw [ownK_err _ _ _ (by rw [hgC];decide)]
    exact hgC
  unfold getR
  rw [hu]
  simp only
  rw [← List.length_append,if_pos hG.ok,hgT]
  simp only
  rw [if_pos (by rw [hgK];decide)]
  exact hgK
section
variable (b:ByteArray) (L:List ByteArray) (hL:L.length≤16777216)
include hL
theorem all_put:∀ (l:List (S40)) (i:Nat) (e:Int) (pre post:List Nat) (a:List (S40)),Fines L i l→i+l.length≤16777216→(kidN l:Int)≤e→Cur.bl b = pre ++ (recsN L i l ++ post) →
    allN L l.length i e ⟨b,pre.length,0⟩ a = (⟨b,(pre ++ recsN L i l).length,0⟩,a ++ l)
  | [],i,e,pre,post,a,_,_,_,_ => by simp [allN,recsN]
  | n :: l,i,e,pre,post,a,⟨h1,h2⟩,hi,he,hb => by
    obtain ⟨x1,x2⟩:=idx_get n.f2 h1.text
    rw [List.length_cons] at hi
    rw [kidN] at he
    rw [recsN] at hb
    have hg:=getR_put b n.f0 n.f1 n.f2 n.f3 (i:Int) e L (n.f2.map L.idxOf) pre (recsN L (i+1) l ++ post) h1.good h1.kids h1.nums (by omega) hL h1.many x1 x2 (by omega) (by rw [hb];simp only [List.append_assoc])
    have ih:=all_put l (i+1) (e - n.f3.length) (pre ++ recI n.f0 n.f1 (n.f2.map L.idxOf) n.f3 (i:Int)) post (a ++ [n]) h2 (by omega) (by omega) (by rw [hb];simp only [List.append_assoc])
    rw [List.length_cons,allN,if_neg (by simp),hg]
    simp only
    rw [show nodeOf (n.f0,n.f1,n.f2,n.f3) = n from rfl,ih,recsN]
    simp only [List.append_assoc,List.singleton_append]
theorem all_less:∀ (l:List (S40)) (i:Nat) (e:Int) (pre post:List Nat) (a:List (S40)),Fines L i l→i+l.length≤16777216→0≤e→e < (kidN l:Int)→Cur.bl b = pre ++ (recsN L i l ++ post) →
    (allN L l.length i e ⟨b,pre.length,0⟩ a).1.e = 19
  | [],i,e,pre,post,a,_,_,h0,he,_ => by simp only [kidN] at he;omega
  | n :: l,i,e,pre,post,a,⟨h1,h2⟩,hi,h0,he,hb => by
    obtain ⟨x1,x2⟩:=idx_get n.f2 h1.text
    rw [List.length_cons] at hi
    rw [kidN] at he
    rw [recsN] at hb
    rw [List.length_cons,allN,if_neg (by simp)]
    by_cases hk:(n.f3.length:Int)≤e
    · have hg:=getR_put b n.f0 n.f1 n.f2 n.f3 (i:Int) e L (n.f2.map L.idxOf) pre (recsN L (i+1) l ++ post) h1.good h1.kids h1.nums (by omega) hL h1.many x1 x2 hk (by rw [hb];simp only [List.append_assoc])
      rw [hg]
      simp only
      exact all_less l (i+1) (e - n.f3.length) (pre ++ recI n.f0 n.f1 (n.f2.map L.idxOf) n.f3 (i:Int)) post _ h2 (by omega) (by omega) (by omega) (by rw [hb];simp only [List.append_assoc])
    · have hg:=getR_big b n.f0 n.f1 n.f2 n.f3 (i:Int) e L (n.f2.map L.idxOf) pre (recsN L (i+1) l ++ post) h1.good h1.nums hL h1.many x1 x2 (by omega) (by rw [hb];simp only [List.append_assoc])
      rw [allN_err _ _ _ _ _ (by rw [hg];decide)]
      exact hg
end
theorem enc_pos (n:Nat):1≤(enc n).length:=by
  unfold enc
  split <;> simp
theorem encK_len (at':Int):∀ l:List Int,l.length≤(encK at' l).length
  | [] => by simp [encK]
  | q :: l => by
    have h1:=encK_len at' l
    have h2:=enc_pos (at' - q).toNat
    rw [encK_cons,List.length_append,List.length_cons];omega
theorem recsN_len (L:List ByteArray):∀ (i:Nat) (l:List (S40)),l.length+kidN l≤(recsN L i l).length
  | i,[] => by simp [recsN,kidN]
  | i,n :: l => by
    have h1:=recsN_len L (i+1) l
    have h2:=enc_pos n.f0.toNat
    have h3:=encK_len (i:Int) n.f3
    have h4:(recsN L i (n :: l)).length = (enc n.f0.toNat).length+((encI n.f1).length+((encN (n.f2.map L.idxOf)).length+((enc n.f3.length).length+(encK (i:Int) n.f3).length)))+(recsN L (i+1) l).length:=by
      rw [recsN];unfold recI
      simp only [List.length_append]
    rw [h4,List.length_cons,kidN];omega
theorem getR_kids {at' edges:Int} {L:List ByteArray} {c:Cur.Cur} (hc:c.at'≤c.b.size):((getR at' edges L c).2.2.2.2.length:Int)≤max edges 0:=by
  by_cases h:(getR at' edges L c).1.e = 0
  · obtain ⟨_,k,l1,is,l3,q,h1,_,_,_,_,h6,_⟩:=getR_inv hc h
    rw [h1];exact h6
  · have:(getR at' edges L c).2.2.2.2 = []:=by
      unfold getR at h ⊢
      split
      · rename_i hk
        rw [if_pos hk] at h
        split
        · rfl
        · rename_i hn
          rw [if_neg hn] at h
          exact absurd (by simpa using hn) h
      · rfl
    rw [this];simp;omega
theorem all_inv (L:List ByteArray) (hn:L.Nodup):∀ (n i:Nat) (e:Int) (c:Cur.Cur) (a:List (S40)),c.at'≤c.b.size→0≤e→(allN L n i e c a).1.e = 0 →
    c.e = 0∧∃ suf q,allN L n i e c a = (⟨c.b,q,0⟩,a ++ suf)∧suf.length = n∧c.at'≤q∧q≤c.b.size∧(Cur.bl c.b).take q = (Cur.bl c.b).take c.at' ++ recsN L i suf∧Fines L i suf∧(kidN suf:Int)≤e
  | 0,i,e,c,a,hc,he,h => by
    have h:c.e = 0:=h
    refine ⟨h,[],c.at',?_,rfl,Nat.le_refl _,hc,by simp [recsN],trivial,by simp [kidN];exact he⟩
    cases c;simp only at h;subst h;simp [allN]
  | n+1,i,e,c,a,hc,he,h => by
    by_cases hce:c.e = 0
    · rw [allN,if_neg (by simpa using hce)] at h ⊢
      refine ⟨hce,?_⟩
      have hg:(getR (i:Int) e L c).1.e = 0:=by
        by_cases hg:(getR (i:Int) e L c).1.e = 0
        · exact hg
        · rw [allN_err _ _ _ _ _ hg] at h;exact absurd h hg
      have hkd:=getR_kids (at':=(i:Int)) (edges:=e) (L:=L) hc
      obtain ⟨_,k,l1,is,l3,q,h1,h2,h3,h4,h5,h6,h7,h8,h9,h10⟩:=getR_inv hc hg
      rw [h1] at h hkd ⊢
      simp only at h hkd ⊢
      obtain ⟨_,suf,q2,i1,i2,i3,i4,i5,i6,i7⟩:=all_inv L hn n (i+1) (e - l3.length) ⟨c.b,q,0⟩ (a ++ [nodeOf (k,l1,is.map fun i => L.getD i ⟨#[]⟩,l3)]) h9 (by omega) h
      simp only at i1 i3 i4 i5
      have hid:=idx_back hn h5
      refine ⟨nodeOf (k,l1,is.map fun i => L.getD i ⟨#[]⟩,l3) :: suf,q2,by rw [i1];simp,by simp [i2],by omega,i4,?_,⟨⟨h2,h3,h4,fun s hs => ?_,h7⟩,i6⟩,?_⟩
      · rw [i5,h10,recsN,List.append_assoc]
        show _ = List.take c.at' (Cur.bl c.b) ++ (recI k l1 ((is.map fun i => L.getD i ⟨#[]⟩).map L.idxOf) l3 (i:Int) ++ _)
        rw [hid]
      · have hs':s ∈ is.map fun i => L.getD i ⟨#[]⟩:=hs
        obtain ⟨j,hj,rfl⟩:=List.mem_map.1 hs'
        rw [List.getD_eq_getElem?_getD,List.getElem?_eq_getElem (h5 j hj)]
        exact List.getElem_mem (h5 j hj)
      · rw [kidN]
        show ((l3.length+kidN suf:Nat):Int)≤e
        omega
    · rw [allN_err _ _ _ _ _ hce] at h;exact absurd h hce
theorem endN_zero {c:Cur.Cur} (h:(endN c).e = 0):c.e = 0∧¬ c.left > 0:=by
  unfold endN at h
  split at h
  · rename_i h1
    exact absurd h (fail_ne _ (by decide))
  · rename_i h1
    exact ⟨h,h1⟩
theorem cntN_inv {b:ByteArray} {m:Int} (h:(cntN b m).2.e = 0):∃ v n:Nat,cntN b m = ((v:Int),⟨b,n,0⟩)∧enc v = (Cur.bl b).take n∧n≤b.size∧(v:Int)≤m∧v≤16777216∧1≤v:=by
  unfold cntN at h ⊢
  simp only at h ⊢
  split at h
  · exact absurd h (fail_ne _ (by decide))
  rename_i h0
  rw [if_neg h0]
  obtain ⟨_,v,n,u1,u2,u3,u4,u5,u6,u7⟩:=Cur.uint_inv h
  rw [u1] at h0 ⊢
  simp only [Cur.new,Nat.zero_add,List.drop_zero] at h0 u2 u3 ⊢
  exact ⟨v,n,rfl,u2,u3,u4,u5,by omega⟩
structure Got (tx b:ByteArray) (L:List ByteArray) (l:List (S40)) (l1 l2 l3 l4:Int):Prop where
  tab:tabB L = tx
  nodup:L.Nodup
  good:∀ s ∈ L,badS s = false
  tot:(total L:Int)≤max l4 0
  llen:L.length≤16777216
  bytes:Cur.bl b = enc l.length ++ recsN L 0 l
  fines:Fines L 0 l
  pos:1≤l.length
  len:(l.length:Int)≤l1
  many:l.length≤16777216
  kids:(kidN l:Int)≤l2
theorem got_of {tx b:ByteArray} {l1 l2 l4:Int} (hE:(getE badS tx 16777216 l4).1 = 0) (h2:0≤l2) (he:(endN (runN b (getE badS tx 16777216 l4).2 l1 l2).1).e = 0) (l3:Int) :
    Got tx b (getE badS tx 16777216 l4).2 (runN b (getE badS tx 16777216 l4).2 l1 l2).2 l1 l2 l3 l4∧(cntN b l1).1 = ((runN b (getE badS tx 16777216 l4).2 l1 l2).2.length:Int):=by
  obtain ⟨L,g1,g2,g3,g4,g5,g6,g7⟩:=getE_one badS hE
  rw [g1] at he ⊢
  simp only at he ⊢
  obtain ⟨r1,r2⟩:=endN_zero he
  unfold runN at r1 r2 ⊢
  have hc0:(cntN b l1).2.e = 0:=by
    by_cases hz:(cntN b l1).2.e = 0
    · exact hz
    · rw [allN_err _ _ _ _ _ hz] at r1;exact absurd r1 hz
  obtain ⟨v,n,c1,c2,c3,c4,c5,c6⟩:=cntN_inv hc0
  rw [c1] at r1 r2 ⊢
  simp only [Int.toNat_natCast] at r1 r2 ⊢
  obtain ⟨_,suf,q,i1,i2,i3,i4,i5,i6,i7⟩:=all_inv L g3 v 0 l2 ⟨b,n,0⟩ [] c3 h2 r1
  rw [i1] at r2 ⊢
  simp only [Cur.Cur.left,List.nil_append] at r2 i3 i4 i5 ⊢
  have hq:q = b.size:=by omega
  refine ⟨⟨g2,g3,fun s hs => (g4 s hs).1,g7,g6,?_,i6,by omega,by omega,by omega,i7⟩,by omega⟩
  rw [hq,List.take_of_length_le (by rw [Cur.bl_length];omega),← c2,← i2] at i5
  exact i5
theorem bad_any {L l:List ByteArray} (h:∀ s ∈ L,badS s = false) (hl:∀ s ∈ l,s ∈ L):l.any badT = false:=by
  rw [List.any_eq_false]
  intro s hs
  have:=h s (hl s hs)
  have e:badT s = badS s:=rfl
  rw [e,this];simp
section
variable {tx b:ByteArray} {L:List ByteArray} {l:List (S40)} {l1 l2 l3 l4:Int} (g:Got tx b L l l1 l2 l3 l4)
include g
theorem Got.small:l.length+kidN l≤b.size:=by
  have h1:=recsN_len L 0 l
  have h2:=congrArg List.length g.bytes
  rw [Cur.bl_length,List.length_append] at h2
  omega
theorem Got.fine {n:S40} (hn:n ∈ l):nE n = 0∧I64 n.f1∧n.f1.length≤4∧n.f2.length≤2∧(∀ s ∈ n.f2,s ∈ L):=by
  obtain ⟨j,_,hj⟩:=fines_mem g.fines n hn
  obtain ⟨_,_,t0,t1,s0,_⟩:=newS_ok hj.good.ok
  refine ⟨of_good hj.good (bad_any g.good hj.text),hj.nums,by have:=hj.good.n1;omega,by have:=hj.good.n2;omega,hj.text⟩
theorem Got.typed:(typedE l 0).1 = 0:=(typedE_zero l 0).2 fun n hn => (g.fine hn).1
theorem Got.back {r:Int} (hb:b.size≤1000000) (he:endE L l r l3 = 0):putN l r = (tx,b,0)∧(checkP l r).1 = 0∧depD l r≤l3∧tabOf [] (txs l) = L:=by
  have hsm:=g.small
  unfold endE at he
  split at he
  · rename_i h;exact absurd he h
  rename_i e1
  split at he
  · exact absurd he (by decide)
  rename_i e2
  split at he
  · exact absurd he (by decide)
  rename_i e3
  split at he
  · rename_i e4
    have hE:putNE l r = 0:=by
      unfold putNE
      rw [if_neg (by simpa using g.typed),if_neg e1,if_neg e3]
    obtain ⟨b2,p1,p2⟩:=putN_ok (by omega) (by rw [kidN_sum];omega) hE
    rw [e4] at p1 p2
    refine ⟨?_,by simpa using e1,by omega,e4⟩
    rw [p1,g.tab,Cur.bl_inj (p2.trans g.bytes.symm)]
  · exact absurd he (by decide)
end
section
variable {tx b:ByteArray} {l0 l1 l2 l3 l4:Int}
theorem getN_e1:getN tx b l0 l1 l2 l3 l4 false = ([],0,1):=by
  have e:getNE tx b l0 l1 l2 l3 l4 false = 1:=by unfold getNE;rw [if_pos rfl]
  unfold getN;rw [e,if_pos (by decide)]
theorem getN_e2 (h:(getE badS tx 16777216 l4).1≠0):getN tx b l0 l1 l2 l3 l4 true = ([],0,(getE badS tx 16777216 l4).1):=by
  have e:getNE tx b l0 l1 l2 l3 l4 true = (getE badS tx 16777216 l4).1:=by unfold getNE;rw [if_neg (by decide),if_pos h]
  unfold getN;rw [e,if_pos h]
theorem getN_e3 {L:List ByteArray} (hE:getE badS tx 16777216 l4 = (0,L)) (h:(endN (runN b L l1 l2).1).e≠0):getN tx b l0 l1 l2 l3 l4 true = ([],0,(endN (runN b L l1 l2).1).e):=by
  have e:getNE tx b l0 l1 l2 l3 l4 true = (endN (runN b L l1 l2).1).e:=by unfold getNE;rw [if_neg (by decide),hE];simp only;rw [if_neg (by simp),if_pos h]
  unfold getN;rw [e,if_pos h]
theorem getN_e4 {L:List ByteArray} (hE:getE badS tx 16777216 l4 = (0,L)) (h:(endN (runN b L l1 l2).1).e = 0) {q:Int} (hq:endE L (runN b L l1 l2).2 ((cntN b l1).1 - 1) l3 = q) (h0:q≠0):getN tx b l0 l1 l2 l3 l4 true = ([],0,q):=by
  have e:getNE tx b l0 l1 l2 l3 l4 true = q:=by unfold getNE;rw [if_neg (by decide),hE];simp only;rw [if_neg (by simp),if_neg (by simpa using h)];exact hq
  unfold getN;rw [e,if_pos h0]
theorem getN_e5 {L:List ByteArray} (hE:getE badS tx 16777216 l4 = (0,L)) (h:(endN (runN b L l1 l2).1).e = 0) (hq:endE L (runN b L l1 l2).2 ((cntN b l1).1 - 1) l3 = 0):getN tx b l0 l1 l2 l3 l4 true = ((runN b L l1 l2).2,(cntN b l1).1 - 1,0):=by
  have e:getNE tx b l0 l1 l2 l3 l4 true = 0:=by unfold getNE;rw [if_neg (by decide),hE];simp only;rw [if_neg (by simp),if_neg (by simpa using h)];exact hq
  unfold getN;rw [e,if_neg (by simp),hE]
end
theorem tabOf_mem:∀ (l L:List ByteArray) (s:ByteArray),s ∈ tabOf L l↔s ∈ L ∨ s ∈ l
  | [],L,s => by simp [tabOf]
  | t :: l,L,s => by
    rw [tabOf,tabOf_mem l]
    have:s ∈ (intern L t).1↔s ∈ L ∨ s = t:=by
      unfold intern
      split
      · rename_i h
        constructor
        · exact .inl
        · rintro (h1 | rfl)
          · exact h1
          · exact h
      · simp
    rw [this]
    simp only [List.mem_cons]
    constructor
    · rintro ((h | h) | h)
      · exact .inl h
      · exact .inr (.inl h)
      · exact .inr (.inr h)
    · rintro (h | h | h)
      · exact .inl (.inl h)
      · exact .inl (.inr h)
      · exact .inr h
theorem fines_of:∀ (l:List (S40)) (i:Nat) (T:List ByteArray),Puts i l→(∀ n ∈ l,I64 n.f1∧n.f3.length≤16777216∧∀ s ∈ n.f2,s ∈ T)→Fines T i l
  | [],i,T,_,_ => trivial
  | n :: l,i,T,⟨h1,h2⟩,h => by
    obtain ⟨e1,e2⟩:=putE_zero.1 h1
    obtain ⟨a1,a2,a3⟩:=h n List.mem_cons_self
    exact ⟨⟨(good_of e1).1,e2,a1,a3,a2⟩,fines_of l (i+1) T h2 (fun m hm => h m (List.mem_cons_of_mem _ hm))⟩
theorem mem_txs {l:List (S40)} {n:S40} (hn:n ∈ l) {s:ByteArray} (hs:s ∈ n.f2):s ∈ txs l:=by
  unfold txs
  rw [List.mem_flatMap]
  exact ⟨n,hn,hs⟩
structure Back (l0:List (S40)) (r:Int):Prop where
  ok:putNE l0 r = 0
  root:r = (l0.length:Int) - 1
  len:l0.length≤100000
  pos:1≤l0.length
  kids:kidN l0≤100000
  nums:∀ n ∈ l0,I64 n.f1
  tlen:(tabOf [] (txs l0)).length≤100000
  size:∀ s ∈ txs l0,s.size≤16777216
section
variable {l0:List (S40)} {r:Int} (h:Back l0 r)
include h
theorem Back.parts:∃ b:ByteArray,putN l0 r = (tabB (tabOf [] (txs l0)),b,0)∧Cur.bl b = enc l0.length ++ recsN (tabOf [] (txs l0)) 0 l0∧Fines (tabOf [] (txs l0)) 0 l0∧(tabOf [] (txs l0)).Nodup∧(∀ s ∈ tabOf [] (txs l0),badS s = false∧s.size≤16777216)∧(checkP l0 r).1 = 0∧isB l0 r = true:=by
  have hl:=h.len
  have hk:=h.kids
  have hsum:((kidsI l0).map List.length).sum≤1000000:=by rw [kidN_sum];omega
  obtain ⟨b,p1,p2⟩:=putN_ok (by omega) hsum h.ok
  obtain ⟨q1,q2,q3,q4⟩:=puts_of (by omega) hsum h.ok
  refine ⟨b,p1,p2,fines_of l0 0 _ q1 (fun n hn => ⟨h.nums n hn,?_,fun s hs => (tabOf_mem _ _ _).2 (.inr (mem_txs hn hs))⟩),tabOf_nodup _ _ List.nodup_nil,fun s hs => ?_,q4,q3⟩
  · have:n.f3.length≤kidN l0:=by
      have:∀ (l:List (S40)),n ∈ l→n.f3.length≤kidN l:=by
        intro l
        induction l with
        | nil => intro h;cases h
        | cons m l ih =>
          intro h
          rw [kidN]
          rcases List.mem_cons.1 h with rfl | h
          · omega
          · have:=ih h;omega
      exact this l0 hn
    omega
  · rcases (tabOf_mem _ _ _).1 hs with h1 | h1
    · cases h1
    · refine ⟨?_,h.size s h1⟩
      unfold txs at h1
      obtain ⟨n,hn,hs2⟩:=List.mem_flatMap.1 h1
      have hb:=(good_of (q2 n hn)).2
      rw [List.any_eq_false] at hb
      have:=hb s hs2
      have e:badT s = badS s:=rfl
      rw [e] at this
      simpa using this
theorem Back.cnt {b:ByteArray} (hb:Cur.bl b = enc l0.length ++ recsN (tabOf [] (txs l0)) 0 l0) {m:Int} (hm:(l0.length:Int)≤m):cntN b m = ((l0.length:Int),⟨b,(enc l0.length).length,0⟩):=by
  have hl:=h.len
  have hp:=h.pos
  have hu:=Cur.uint_of (c:=Cur.new b) (most:=m) rfl (Cur.gt_put b 0 l0.length [] (recsN (tabOf [] (txs l0)) 0 l0) (by omega) (by rw [hb];rfl) rfl) hm (by omega)
  unfold cntN
  rw [hu]
  simp only [Cur.new,Nat.zero_add]
  rw [if_neg (by omega)]
theorem Back.run {a b:ByteArray} (hp:putN l0 r = (a,b,0)) {l1 l2 l4:Int} (h2:0≤l2) (h4:0≤l4) :
    (l4 < (total (tabOf [] (txs l0)):Int)∧(getE badS a 16777216 l4).1 = 19) ∨ ((total (tabOf [] (txs l0)):Int)≤l4∧getE badS a 16777216 l4 = (0,tabOf [] (txs l0)) ∧
      (((l1 < (l0.length:Int) ∨ l2 < (kidN l0:Int))∧(endN (runN b (tabOf [] (txs l0)) l1 l2).1).e = 19) ∨
        ((l0.length:Int)≤l1∧(kidN l0:Int)≤l2∧runN b (tabOf [] (txs l0)) l1 l2 = (⟨b,b.size,0⟩,l0)∧endN ⟨b,b.size,0⟩ = ⟨b,b.size,0⟩∧(cntN b l1).1 = (l0.length:Int)))):=by
  obtain ⟨b',p1,p2,p3,p4,p5,p6,p7⟩:=h.parts
  have hl:=h.len
  have ht:=h.tlen
  rw [hp] at p1
  simp only [Prod.mk.injEq] at p1
  obtain ⟨rfl,rfl,_⟩:=p1
  by_cases hT:(total (tabOf [] (txs l0)):Int)≤l4
  rotate_left
  · exact .inl ⟨by omega,tab_lessB badS (tabOf [] (txs l0)) 16777216 l4 p5 p4 (by omega) (by omega) (by omega)⟩
  refine .inr ⟨hT,tab_back badS (tabOf [] (txs l0)) 16777216 l4 p5 p4 (by omega) (by omega) hT,?_⟩
  have fin:∀ c:Cur.Cur,c.e = 19→(endN c).e = 19:=fun c hc => by
    unfold endN
    split
    · rw [Cur.fail_e (by rw [hc];decide)];exact hc
    · exact hc
  by_cases hN:(l0.length:Int)≤l1
  rotate_left
  · refine .inl ⟨.inl (by omega),fin _ ?_⟩
    have hu:=Cur.uint_big (c:=Cur.new b) (most:=l1) rfl (Cur.gt_put b 0 l0.length [] (recsN (tabOf [] (txs l0)) 0 l0) (by omega) (by rw [p2];rfl) rfl) (.inl (by omega))
    have hc:(cntN b l1).2.e = 19:=by
      unfold cntN
      rw [hu]
      simp only
      first | rw [if_pos rfl] | rw [if_pos trivial]
      rw [Cur.fail_e (by simp)]
    unfold runN
    rw [allN_err _ _ _ _ _ (by rw [hc];decide)]
    exact hc
  have hc:=h.cnt p2 hN
  by_cases hK:(kidN l0:Int)≤l2
  rotate_left
  · refine .inl ⟨.inr (by omega),fin _ ?_⟩
    unfold runN
    rw [hc]
    simp only [Int.toNat_natCast]
    exact all_less b _ (by omega) l0 0 l2 (enc l0.length) [] [] p3 (by omega) h2 (by omega) (by rw [p2,List.append_nil])
  refine .inr ⟨hN,hK,?_,by unfold endN Cur.Cur.left;rw [if_neg (by simp)],by rw [hc]⟩
  unfold runN
  rw [hc]
  simp only [Int.toNat_natCast]
  rw [all_put b _ (by omega) l0 0 l2 (enc l0.length) [] [] p3 (by omega) hK (by rw [p2,List.append_nil]),← p2,Cur.bl_length,List.nil_append]
theorem Back.got {a b:ByteArray} (hp:putN l0 r = (a,b,0)) {l1 l2 l3 l4 e0:Int} (h1:(l0.length:Int)≤l1) (h2:(kidN l0:Int)≤l2) (h3:depD l0 r≤l3) (h4:(total (tabOf [] (txs l0)):Int)≤l4):getN a b e0 l1 l2 l3 l4 true = (l0,r,0):=by
  obtain ⟨_,_,_,_,_,_,p6,p7⟩:=h.parts
  rcases h.run hp (l1:=l1) (l2:=l2) (l4:=l4) (by omega) (by omega) with ⟨h5,_⟩ | ⟨_,hE,⟨h5,_⟩ | ⟨_,_,hr,hn,hc⟩⟩
  · omega
  · omega
  · rw [getN_e5 hE (by rw [hr];simp only;rw [hn]) (by rw [hr,hc,← h.root];simp only;unfold endE;rw [if_neg (by simpa using p6),if_neg (by omega),if_neg (by simpa using p7),if_pos rfl]),hr,hc,← h.root]
theorem Back.less {a b:ByteArray} (hp:putN l0 r = (a,b,0)) {l1 l2 l3 l4 e0:Int} (h2:0≤l2) (h4:0≤l4) (hless:l4 < (total (tabOf [] (txs l0)):Int) ∨ l1 < (l0.length:Int) ∨ l2 < (kidN l0:Int) ∨ l3 < depD l0 r):getN a b e0 l1 l2 l3 l4 true = ([],0,19):=by
  obtain ⟨_,_,_,_,_,_,p6,p7⟩:=h.parts
  rcases h.run hp (l1:=l1) (l2:=l2) (l4:=l4) h2 h4 with ⟨h5,hE⟩ | ⟨h6,hE,⟨h5,hr⟩ | ⟨h7,h8,hr,hn,hc⟩⟩
  · rw [getN_e2 (by rw [hE];decide),hE]
  · rw [getN_e3 hE (by rw [hr];decide),hr]
  · exact getN_e4 hE (by rw [hr];simp only;rw [hn]) (by rw [hr,hc,← h.root];simp only;unfold endE;rw [if_neg (by simpa using p6),if_pos (by omega)]) (by decide)
end
theorem recL_len:∀ l:List ByteArray,l.length+total l≤(recL l).length
  | [] => by simp [recL,total]
  | s :: l => by
    have h1:=recL_len l
    have h2:=enc_pos s.size
    rw [recL_cons,List.length_append,List.length_append,Cur.bl_length,total_cons,List.length_cons];omega
theorem tabB_len (l:List ByteArray):l.length+total l≤(tabB l).size:=by
  have h1:=recL_len l
  have h2:=congrArg List.length (tabB_bl l)
  rw [Cur.bl_length,List.length_append] at h2
  omega
theorem mem_total:∀ {l:List ByteArray} {s:ByteArray},s ∈ l→s.size≤total l
  | t :: l,s,h => by
    rw [total_cons]
    rcases List.mem_cons.1 h with rfl | h
    · omega
    · have:=mem_total h;omega
theorem tabB_inj {U L:List ByteArray} (hU:U.Nodup) (hL:L.Nodup) (hu:U.length≤1000000) (hl:L.length≤1000000) (su:∀ s ∈ U,s.size≤16777216) (sl:∀ s ∈ L,s.size≤16777216) (h:tabB U = tabB L):U = L:=by
  have h1:=tab_back (fun _ => false) U 1000000 (total U+total L) (fun s hs => ⟨rfl,su s hs⟩) hU (by omega) (by omega) (by omega)
  have h2:=tab_back (fun _ => false) L 1000000 (total U+total L) (fun s hs => ⟨rfl,sl s hs⟩) hL (by omega) (by omega) (by omega)
  rw [h,h2] at h1
  exact (Prod.mk.inj h1).2.symm
theorem tabB_eq {U L:List ByteArray} (hU:U.Nodup) (hL:L.Nodup) (hu:U.length≤1000000) (hl:L.length≤1000000) (su:∀ s ∈ U,s.size≤16777216) (sl:∀ s ∈ L,s.size≤16777216):((tabB U).toList == (tabB L).toList) = decide (U = L):=by
  by_cases h:U = L
  · rw [decide_eq_true h,h];simp
  · rw [decide_eq_false h]
    by_cases h2:(tabB U).toList = (tabB L).toList
    · rw [toList_eq] at h2
      exact absurd (tabB_inj hU hL hu hl su sl h2) h
    · simpa using h2
end Go.Proofs.YtoigkneoaemcfaaDoor.Nd
