/- Records, plain: what the laws ask. -/
import Derived.Test.YtoigkneoaemcfaaDoorRxRecP
namespace Go.Proofs.YtoigkneoaemcfaaDoor.Rec
open Go.RowKit Go.Lib Go.Proofs.YtoigkneoaemcfaaDoorW.PrintWords Go.Proofs.YtoigkneoaemcfaaDoorW.PrintLast Go.Proofs.YtoigkneoaemcfaaDoorW.PrintMore Go.Proofs.YtoigkneoaemcfaaDoor.B Go.Proofs.YtoigkneoaemcfaaDoor.Tab Go.Proofs.YtoigkneoaemcfaaDoor.VM Go.Proofs.YtoigkneoaemcfaaDoor.GR
set_option linter.unusedVariables false
set_option linter.unusedSimpArgs false
/-! ### sizes -/
theorem bI_size : ∀ (l : List Int) (o : ByteArray), I64 l → (bI o l).size ≤ o.size + 10 * l.length ∧ o.size ≤ (bI o l).size
  | [], o, _ => by simp [bI]
  | x :: l, o, h => by
    have hx := h x List.mem_cons_self
    have hz := Cur.zg_nonneg x
    have h1 := bI_size l (o ++ Cur.put (Cur.zg x).toNat) (fun y hy => h y (List.mem_cons_of_mem _ hy))
    have h2 := Cur.put_size_le (n := (Cur.zg x).toNat) (by unfold Cur.zg at hz ⊢; split <;> omega)
    rw [ByteArray.size_append] at h1
    rw [bI, List.length_cons]; omega
theorem bT_size : ∀ (l : List ByteArray) (o : ByteArray) (L : List ByteArray), L.length + l.length ≤ 1000000000 → (bT o L l).1.size ≤ o.size + 10 * l.length ∧ o.size ≤ (bT o L l).1.size
  | [], o, L, _ => by simp [bT]
  | x :: l, o, L, h => by
    rw [List.length_cons] at h
    have h3 := (intern_len L x).1
    have h1 := bT_size l (o ++ Cur.put (intern L x).2) (intern L x).1 (by omega)
    have h4 := intern_lt L x
    have h2 := Cur.put_size_le (n := (intern L x).2) (by omega)
    rw [ByteArray.size_append] at h1
    rw [bT, List.length_cons]; omega
/-! ### one record -/
/-- A record that was put, got: with the table then, or any that it begins. -/
theorem got_back (b : ByteArray) (k : Int) (l1 : List Int) (l2 : List ByteArray) (l3 : List Int) (at' edges : Int) (L suf : List ByteArray) (pre post : List Nat) (hE : putE k l1 l2 l3 at' = 0) (hi : I64 l1) (ha : at' ≤ 16777216) (hL : (tabOf L l2 ++ suf).length ≤ 16777216) (hl3 : l3.length ≤ 16777216)
    (he : (l3.length : Int) ≤ edges) (hb : Cur.bl b = pre ++ (Cur.bl (putO k l1 l2 l3 at' L).1 ++ post)) :
    getR at' edges (tabOf L l2 ++ suf) ⟨b, pre.length, 0⟩ = (⟨b, pre.length + (putO k l1 l2 l3 at' L).1.size, 0⟩, k, l1, l2, l3) := by
  obtain ⟨h1, h2⟩ := putE_zero.1 hE
  obtain ⟨i1, i2⟩ := ids_get l2 L suf
  have hp := putO_bl k l1 l2 l3 at' L
  rw [hp] at hb
  have := getR_put b k l1 l2 l3 at' edges (tabOf L l2 ++ suf) (ids L l2) pre post (good_of h1).1 h2 hi ha hL hl3 i1 i2 he hb
  rw [this, List.length_append, ← hp, Cur.bl_length]
/-- What is got is put as it was. -/
theorem put_back {at' edges : Int} {L : List ByteArray} {b : ByteArray} (hn : L.Nodup) (hgood : ∀ s ∈ L, badT s = false) {c : Cur.Cur} {k : Int} {l1 : List Int} {l2 : List ByteArray} {l3 : List Int} (hg : getR at' edges L (Cur.new b) = (c, k, l1, l2, l3)) (he : c.e = 0) :
    putR k l1 l2 l3 at' L = (b.extract 0 c.at', L, 0) ∧ c.b = b ∧ 0 < c.at' ∧ c.at' ≤ b.size ∧ I64 l1 ∧ l1.length ≤ 4 ∧ l2.length ≤ 2 ∧ (l3.length : Int) ≤ max edges 0 ∧ l3.length ≤ 16777216 ∧ (∀ s ∈ l2, s ∈ L) := by
  obtain ⟨_, k', l1', is, l3', q, h1, h2, h3, h4, h5, h6, h7, h8, h9, h10⟩ := getR_inv (at' := at') (edges := edges) (L := L) (c := Cur.new b) (Nat.zero_le _) (by rw [hg]; exact he)
  rw [hg] at h1
  simp only [Prod.mk.injEq] at h1
  obtain ⟨rfl, rfl, rfl, rfl, rfl⟩ := h1
  simp only [Cur.new] at h8 h9 h10 ⊢
  obtain ⟨o1, o2⟩ := ids_old hn is h5
  have hmem : ∀ s ∈ is.map (fun i => L.getD i ⟨#[]⟩), s ∈ L := fun s hs => by
    obtain ⟨i, hi, rfl⟩ := List.mem_map.1 hs
    rw [List.getD_eq_getElem?_getD, List.getElem?_eq_getElem (h5 i hi)]
    exact List.getElem_mem (h5 i hi)
  have hN : nodeE k l1 (is.map fun i => L.getD i ⟨#[]⟩) l3 = 0 := of_good h2 (by rw [List.any_eq_false]; intro s hs; rw [hgood s (hmem s hs)]; simp)
  have hP : putE k l1 (is.map fun i => L.getD i ⟨#[]⟩) l3 at' = 0 := putE_zero.2 ⟨hN, h3⟩
  have hB : (putO k l1 (is.map fun i => L.getD i ⟨#[]⟩) l3 at' L).1 = b.extract 0 q := by
    apply Cur.bl_inj
    rw [putO_bl, o1, Cur.extract_bl, h10]
    simp
  obtain ⟨_, _, t0, t1, s0, _⟩ := newS_ok h2.ok
  refine ⟨?_, trivial, h8, h9, h4, by have := h2.n1; omega, by have := h2.n2; omega, h6, h7, hmem⟩
  unfold putR
  rw [if_neg (by simpa using hP), hB, putO_tab, o2]
/-- Where a cursor is when there is an error, it stays. -/
theorem getR_b (at' edges : Int) (L : List ByteArray) (c : Cur.Cur) : (getR at' edges L c).1.b = c.b := by
  have hI : ∀ (qs : List Int) (c : Cur.Cur) (a : List Int), (ownI qs c a).1.b = c.b := by
    intro qs
    induction qs with
    | nil => intro c a; rfl
    | cons q qs ih =>
      intro c a
      rw [ownI]
      split
      · rfl
      · rw [ih]; split
        · exact Cur.int_b
        · exact (Cur.fail_b 10).trans Cur.int_b
  have hT : ∀ (n : Nat) (c : Cur.Cur) (a : List ByteArray), (ownT L n c a).1.b = c.b := by
    intro n
    induction n with
    | zero => intro c a; rfl
    | succ n ih =>
      intro c a
      rw [ownT]
      split
      · rfl
      · rw [ih]; split
        · exact Cur.uint_b _
        · exact (Cur.fail_b 13).trans (Cur.uint_b _)
  have hK : ∀ (n : Nat) (c : Cur.Cur) (a : List Int), (ownK at' n c a).1.b = c.b := by
    intro n
    induction n with
    | zero => intro c a; rfl
    | succ n ih =>
      intro c a
      rw [ownK]
      split
      · rfl
      · rw [ih]; split
        · exact (Cur.fail_b 13).trans (Cur.uint_b _)
        · exact Cur.uint_b _
  have hC : ∀ (k : Int) (c : Cur.Cur), (cntC k edges c).b = c.b := by
    intro k c
    unfold cntC
    split
    · exact (Cur.fail_b 12).trans (Cur.uint_b _)
    · exact Cur.uint_b _
  have hall : ∀ k c, (getK k at' edges (getT k L c).1).1.b = c.b := by
    intro k c
    unfold getK getT getI
    rw [hK, hC, hT, hI]
  unfold getR
  split
  · split
    · exact (hall _ _).trans (Cur.uint_b _)
    · exact (hall _ _).trans (Cur.uint_b _)
  · exact (Cur.fail_b 9).trans (Cur.uint_b _)
/-! ### kids as far ahead -/
theorem bK_moved (at' by' : Int) : ∀ (l : List Int) (o : ByteArray), bK (at' + by') o (l.map (· + by')) = bK at' o l
  | [], o => rfl
  | q :: l, o => by rw [List.map_cons, bK, bK, show at' + by' - (q + by') = at' - q by omega, bK_moved at' by' l]
theorem putR_moved (k : Int) (l1 : List Int) (l2 : List ByteArray) (l3 : List Int) (at' by' : Int) (L : List ByteArray) (h0 : 0 ≤ by') (hE : putE k l1 l2 l3 at' = 0) :
    putE k l1 l2 (l3.map (· + by')) (at' + by') = 0 ∧ putO k l1 l2 (l3.map (· + by')) (at' + by') L = putO k l1 l2 l3 at' L := by
  obtain ⟨h1, h2⟩ := putE_zero.1 hE
  refine ⟨putE_zero.2 ⟨?_, ?_⟩, ?_⟩
  · unfold nodeE at h1 ⊢
    unfold chk at h1 ⊢
    rw [List.length_map]
    exact h1
  · unfold kidsE at h2 ⊢
    rw [List.any_eq_false] at h2 ⊢
    intro q hq
    obtain ⟨x, hx, rfl⟩ := List.mem_map.1 hq
    have := h2 x hx
    simp only [decide_eq_true_eq] at this ⊢
    omega
  · unfold putO
    rw [bK_moved, List.length_map]
/-! ### records, one behind the other -/
/-- These bytes are records of these nodes, with a table's texts. -/
def recs (at' : Int) (T : List ByteArray) : List (S40) → List Nat → Prop
  | [], B => B = []
  | n :: l, B => ∃ is B2, B = recI n.f0 n.f1 is n.f3 at' ++ B2 ∧ (∀ i ∈ is, i < T.length) ∧ is.map (fun i => T.getD i ⟨#[]⟩) = n.f2 ∧ (Good n.f0 n.f1 n.f2 n.f3 ∧ kidsE at' n.f3 = false ∧ I64 n.f1 ∧ n.f3.length ≤ 300) ∧ recs at' T l B2
theorem recs_more {at' : Int} {T : List ByteArray} (suf : List ByteArray) : ∀ (l : List (S40)) (B : List Nat), recs at' T l B → recs at' (T ++ suf) l B
  | [], B, h => h
  | n :: l, B, ⟨is, B2, h1, h2, h3, h4, h5⟩ => ⟨is, B2, h1, fun i hi => by rw [List.length_append]; have := h2 i hi; omega, by rw [← h3]; exact List.map_congr_left fun i hi => getD_pre (h2 i hi), h4, recs_more suf l B2 h5⟩
theorem recs_snoc {at' : Int} {T : List ByteArray} {n : S40} {B' : List Nat} : ∀ (l : List (S40)) (B : List Nat), recs at' T l B → recs at' T [n] B' → recs at' T (l ++ [n]) (B ++ B')
  | [], B, h, h2 => by rw [show B = [] from h]; exact h2
  | m :: l, B, ⟨is, B2, h1, h3, h4, h5, h6⟩, h2 => ⟨is, B2 ++ B', by rw [h1, List.append_assoc], h3, h4, h5, recs_snoc l B2 h6 h2⟩
theorem recs_put {at' : Int} {L : List ByteArray} {n : S40} {l : List (S40)} {o : ByteArray} (h : recs at' L l (Cur.bl o)) (hE : putE n.f0 n.f1 n.f2 n.f3 at' = 0) (hi : I64 n.f1) (h3 : n.f3.length ≤ 300) :
    recs at' (tabOf L n.f2) (l ++ [n]) (Cur.bl (o ++ (putO n.f0 n.f1 n.f2 n.f3 at' L).1)) := by
  obtain ⟨h1, h2⟩ := putE_zero.1 hE
  obtain ⟨suf, hs⟩ := tabOf_pre n.f2 L
  obtain ⟨i1, i2⟩ := ids_get n.f2 L []
  rw [List.append_nil] at i1 i2
  rw [Cur.append_bl, putO_bl]
  refine recs_snoc l _ (by rw [hs]; exact recs_more suf l _ h) ⟨ids L n.f2, [], by simp, i1, i2, ⟨(good_of h1).1, h2, hi, h3⟩, rfl⟩
theorem recs_get {at' : Int} {T : List ByteArray} {n : S40} {l : List (S40)} {b : ByteArray} {pre B : List Nat} (hT : T.length ≤ 16777216) (ha : at' ≤ 16777216) (h : recs at' T (n :: l) B) (hb : Cur.bl b = pre ++ B) :
    ∃ pre' B', Cur.bl b = pre' ++ B' ∧ getR at' 1000 T ⟨b, pre.length, 0⟩ = (⟨b, pre'.length, 0⟩, n.f0, n.f1, n.f2, n.f3) ∧ recs at' T l B' := by
  obtain ⟨is, B2, rfl, h2, h3, ⟨h4, h5, h6, h7⟩, h8⟩ := h
  exact ⟨pre ++ recI n.f0 n.f1 is n.f3 at', B2, by rw [hb, List.append_assoc], getR_put b _ _ _ _ at' 1000 T is pre B2 h4 h5 h6 ha hT (by omega) h2 h3 (by omega) hb, h8⟩
end Go.Proofs.YtoigkneoaemcfaaDoor.Rec
