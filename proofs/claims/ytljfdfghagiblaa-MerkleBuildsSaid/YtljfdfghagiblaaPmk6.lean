/- The tree of any leaves is as the document says, in plain words. -/
import Derived.Test.YtljfdfghagiblaaPmk3
import Derived.Test.YtljfdfghagiblaaGLMerkleBuilds
set_option linter.unusedVariables false
set_option linter.unusedSimpArgs false
namespace Go.Proofs.Ytljfdfghagiblaa.S2.Mk
open Go Go.Proofs.Ytljfdfghagiblaa.S2

/-- The program's oracle and the document's keep the same. -/
structure Rel (o : Or) (p : Rf) : Prop where
  dr : p.draws = o.draws
  dn : o.drawn = (p.rows.length : Int)
  bd : o.bad = decide (p.bads > 0)
  b0 : 0 ≤ p.bads
  b1 : p.bads ≤ p.rows.length
  is : ∀ h, mget eqI 0 h o.issued > 0 ↔ p.rows.any (fun y : RW => y.2.2.2.2.2 == h) = true
  me : ∀ h, mget eqI 0 h o.met > 0 ↔ p.met.any (fun y => y == h) = true
  ha : ∀ t, mfind eqS t o.hashes = (p.rows.find? (rmatch 1 0 0 t ByteArray.empty)).map fun y => y.2.2.2.2.2
theorem rel_new (draws : List Int) : Rel (Or.new draws) (Rf.new draws) :=
  ⟨rfl, rfl, rfl, Int.le_refl _, Int.le_refl _, fun h => by simp [Or.new, Rf.new, mget, mfind], fun h => by simp [Or.new, Rf.new, mget, mfind], fun t => rfl⟩
theorem rel_clash {o : Or} {p : Rf} (r : Rel o p) (h : Int) : o.clash h = p.clash h := by
  unfold Or.clash Rf.clash
  congr 1
  congr 1
  · rw [Bool.eq_iff_iff, decide_eq_true_iff]
    exact r.is h
  · rw [Bool.eq_iff_iff, decide_eq_true_iff]
    exact r.me h
theorem rmatch_self (t t' : ByteArray) (h : Int) : rmatch 1 0 0 t' ByteArray.empty (1, 0, 0, t, ByteArray.empty, h) = decide (t = t') := by
  unfold rmatch
  rw [← bytes_beq]
  show (true && (true && (true && (true && (t.toList == t'.toList && (ByteArray.empty.toList == ByteArray.empty.toList)))))) = _
  rw [beq_self_eq_true (ByteArray.empty.toList)]
  simp
theorem rel_hash {o : Or} {p : Rf} (w : Wf o) (r : Rel o p) (t : ByteArray) (hb : p.rows.length ≤ 1000000) : (o.hash t).1 = (p.hash t).1 ∧ Rel (o.hash t).2 (p.hash t).2 ∧ (p.hash t).2.rows.length ≤ p.rows.length + 1 ∧ (p.hash t).2.met = p.met := by
  unfold Or.hash Rf.hash Rf.value
  rw [r.ha t]
  cases hf : p.rows.find? (rmatch 1 0 0 t ByteArray.empty) with
  | some y => exact ⟨rfl, r, Nat.le_succ _, rfl⟩
  | none =>
    have hn : nextD o.draws o.drawn = nextD p.draws p.rows.length := by rw [r.dr, r.dn]
    have hcl := rel_clash r (nextD o.draws o.drawn)
    have hdw : IntKind.i64.wrap (o.drawn + 1) = o.drawn + 1 := by have := r.dn; exact i64id (by omega) (by omega)
    have hcnt := w.cnt (nextD o.draws o.drawn)
    have hw : IntKind.i64.wrap (mget eqI 0 (nextD o.draws o.drawn) o.issued + 1) = mget eqI 0 (nextD o.draws o.drawn) o.issued + 1 := by have := r.dn; exact i64id (by omega) (by omega)
    refine ⟨hn, ⟨r.dr, ?_, ?_, ?_, ?_, ?_, r.me, ?_⟩, ?_, rfl⟩
    · show IntKind.i64.wrap (o.drawn + 1) = ((p.rows ++ [_]).length : Int)
      rw [hdw, r.dn]
      simp
    · show (o.bad || o.clash (nextD o.draws o.drawn)) = decide ((if p.clash (nextD p.draws p.rows.length) then IntKind.i64.wrap (p.bads + 1) else p.bads) > 0)
      rw [hcl, hn, r.bd]
      have h0 := r.b0
      have h1 := r.b1
      cases p.clash (nextD p.draws p.rows.length) with
      | true =>
        rw [if_pos rfl, i64id (by omega) (by omega), decide_eq_true (show p.bads + 1 > 0 by omega), Bool.or_true]
      | false => rw [if_neg (by decide), Bool.or_false]
    · show 0 ≤ (if p.clash (nextD p.draws p.rows.length) then IntKind.i64.wrap (p.bads + 1) else p.bads)
      have h0 := r.b0
      have h1 := r.b1
      split
      · rw [i64id (by omega) (by omega)]; omega
      · exact h0
    · show (if p.clash (nextD p.draws p.rows.length) then IntKind.i64.wrap (p.bads + 1) else p.bads) ≤ ((p.rows ++ [_]).length : Int)
      have h0 := r.b0
      have h1 := r.b1
      rw [List.length_append, List.length_singleton]
      split
      · rw [i64id (by omega) (by omega)]; omega
      · omega
    · intro h
      show mget eqI 0 h (mput eqI (nextD o.draws o.drawn) (IntKind.i64.wrap (mget eqI 0 (nextD o.draws o.drawn) o.issued + 1)) o.issued) > 0 ↔ (p.rows ++ [(1, 0, 0, t, ByteArray.empty, nextD p.draws p.rows.length)]).any (fun y : RW => y.2.2.2.2.2 == h) = true
      have hg : mget eqI 0 h (mput eqI (nextD o.draws o.drawn) (IntKind.i64.wrap (mget eqI 0 (nextD o.draws o.drawn) o.issued + 1)) o.issued) = if h = nextD o.draws o.drawn then IntKind.i64.wrap (mget eqI 0 (nextD o.draws o.drawn) o.issued + 1) else mget eqI 0 h o.issued := mget_mput eqI_l (κ := Int) 0 h (nextD o.draws o.drawn) _ o.issued
      rw [hg, hw, List.any_append, List.any_cons, List.any_nil, Bool.or_false, Bool.or_eq_true, ← r.is h]
      dsimp only
      rw [← hn, beq_iff_eq]
      split
      · rename_i e
        exact ⟨fun _ => .inr e.symm, fun _ => by omega⟩
      · rename_i e
        exact ⟨fun q => .inl q, fun q => q.elim id fun q => (e q.symm).elim⟩
    · intro t'
      show mfind eqS t' (mput eqS t (nextD o.draws o.drawn) o.hashes) = ((p.rows ++ [(1, 0, 0, t, ByteArray.empty, nextD p.draws p.rows.length)]).find? (rmatch 1 0 0 t' ByteArray.empty)).map fun y : RW => y.2.2.2.2.2
      have hm : mfind eqS t' (mput eqS t (nextD o.draws o.drawn) o.hashes) = if t' = t then some (nextD o.draws o.drawn) else mfind eqS t' o.hashes := mfind_mput eqS_l (κ := ByteArray) t' t _ o.hashes
      rw [hm, List.find?_append, List.find?_cons, List.find?_nil, rmatch_self]
      by_cases e : t' = t
      · subst e
        rw [if_pos rfl, hf, decide_eq_true rfl, hn]
        rfl
      · rw [if_neg e, decide_eq_false (fun h => e h.symm), r.ha t', Option.or_none]
    · show (p.rows ++ [_]).length ≤ p.rows.length + 1
      simp

def hashAllR : List ByteArray → Rf → List Int × Rf
  | [], p => ([], p)
  | t :: l, p => ((p.hash t).1 :: (hashAllR l (p.hash t).2).1, (hashAllR l (p.hash t).2).2)
theorem rel_all : ∀ (l : List ByteArray) {o : Or} {p : Rf}, Wf o → Rel o p → p.rows.length + l.length ≤ 1000000 → (hashAll l o).1 = (hashAllR l p).1 ∧ Rel (hashAll l o).2 (hashAllR l p).2 ∧ (hashAllR l p).2.rows.length ≤ p.rows.length + l.length ∧ (hashAllR l p).2.met = p.met
  | [], o, p, w, r, hb => ⟨rfl, r, Nat.le_refl _, rfl⟩
  | t :: l, o, p, w, r, hb => by
    simp only [List.length_cons] at hb
    obtain ⟨h1, r1, b1, m1⟩ := rel_hash w r t (by omega)
    obtain ⟨w1, _, _, _⟩ := hash_wf w t (by have := r.dn; omega)
    obtain ⟨h2, r2, b2, m2⟩ := rel_all l w1 r1 (by omega)
    refine ⟨?_, r2, ?_, m2.trans m1⟩
    · simp only [hashAll, hashAllR]
      rw [h1, h2]
    · simp only [hashAllR, List.length_cons]
      omega
def treeR : Nat → List Int → Rf → List (List Int) × Rf
  | 0, l, p => ([l], p)
  | d + 1, l, p => (l :: (treeR d (hashAllR (texts l) p).1 (hashAllR (texts l) p).2).1, (treeR d (hashAllR (texts l) p).1 (hashAllR (texts l) p).2).2)
theorem rel_tree : ∀ (d : Nat) (l : List Int) {o : Or} {p : Rf}, Wf o → Rel o p → l.length = 2 ^ d → p.rows.length + 2 ^ d ≤ 1000000 → (treeS d l o).1 = (treeR d l p).1 ∧ Rel (treeS d l o).2 (treeR d l p).2 ∧ (treeR d l p).2.met = p.met
  | 0, l, o, p, w, r, hl, hb => ⟨rfl, r, rfl⟩
  | d + 1, l, o, p, w, r, hl, hb => by
    have hpn : (2 : Nat) ^ (d + 1) = 2 ^ d + 2 ^ d := by rw [Nat.pow_succ]; omega
    have htx : (texts l).length = 2 ^ d := by rw [texts_len, hl]; omega
    obtain ⟨h1, r1, b1, m1⟩ := rel_all (texts l) w r (by omega)
    obtain ⟨w1, _, _, _⟩ := hashAll_wf (texts l) w (by have := r.dn; rw [htx]; omega)
    have l1 : (hashAll (texts l) o).1.length = 2 ^ d := by rw [hashAll_len, htx]
    obtain ⟨h2, r2, m2⟩ := rel_tree d (hashAll (texts l) o).1 w1 r1 l1 (by omega)
    simp only [treeS, treeR]
    rw [← h1]
    exact ⟨by rw [h2], r2, m2.trans m1⟩

/-! ### the document's functions -/
theorem r_Leaf (p : Rf) (t : ByteArray) (ht : t.size ≤ 140737488355328) (hr : p.rows.length ≤ 1000000000) (hm : p.met.length ≤ 1000000000) : F_ref06_Leaf (t, ()) p.m = some ((p.hash (leafT t)).1, (p.hash (leafT t)).2.mo) := by
  have hf := r_Hash p (leafT t) hr hm
  obtain ⟨draws, rows, met, bads⟩ := p
  simp only [Rf.m] at *
  rw [Fe_ref06_Leaf]
  unfold tree_ref06_Leaf
  rw [cd_t (by omega)]
  unfold leafT at *
  rw [hf]
  rfl
theorem r_Node (p : Rf) {a b : Int} (ha : U a) (hb : U b) (hr : p.rows.length ≤ 1000000000) (hm : p.met.length ≤ 1000000000) : F_ref06_Node (a, b, ()) p.m = some ((p.hash (nodeT a b)).1, (p.hash (nodeT a b)).2.mo) := by
  have hf := r_Hash p (nodeT a b) hr hm
  have h1 := putB_size ha.1 ha.2
  have h2 := putB_size hb.1 hb.2
  obtain ⟨draws, rows, met, bads⟩ := p
  simp only [Rf.m] at *
  rw [Fe_ref06_Node]
  unfold tree_ref06_Node
  rw [r_PutUint ha.1 ha.2, r_PutUint hb.1 hb.2]
  simp only [Option.bind_some]
  have h4 : (ByteArray.mk #[110, 111, 100, 101]).size = 4 := rfl
  rw [cd_t (by omega), cd_t (by rw [size_app, h4]; omega)]
  unfold nodeT at *
  rw [hf]
  rfl
theorem power_loop (n : Nat) (hn : n ≤ 60) : ∀ (d k : Nat), k + d = n → L_ref06_Power_3 ((n : Int), ((2 ^ k : Nat) : Int), (k : Int), ()) () = some ((((2 ^ n : Nat) : Int), ()), ())
  | 0, k, h => by
    rw [Le_ref06_Power_3]
    unfold ltree_ref06_Power_3
    obtain rfl : k = n := by omega
    rw [cd_f (by omega)]
  | d + 1, k, h => by
    rw [Le_ref06_Power_3]
    unfold ltree_ref06_Power_3
    have hp : 2 ^ (k + 1) = 2 * 2 ^ k := by rw [Nat.pow_succ]; omega
    have hs : 2 ^ (k + 1) ≤ 2 ^ 60 := Nat.pow_le_pow_right (by decide) (by omega)
    have h60 : (2 : Nat) ^ 60 = 1152921504606846976 := by decide
    have e1 : IntKind.i64.wrap ((k : Int) + 1) = ((k + 1 : Nat) : Int) := by rw [i64id (by omega) (by omega)]; simp
    have e2 : IntKind.i64.wrap (2 * ((2 ^ k : Nat) : Int)) = ((2 ^ (k + 1) : Nat) : Int) := by
      rw [hp]
      generalize 2 ^ k = q at *
      rw [i64id (by omega) (by omega)]
      omega
    rw [cd_t (by omega), e1, e2]
    exact power_loop n hn d (k + 1) (by omega)
theorem r_Power {n : Nat} (hn : n ≤ 60) : F_ref06_Power ((n : Int), ()) () = some (((2 ^ n : Nat) : Int), ()) := by
  rw [Fe_ref06_Power]
  unfold tree_ref06_Power
  have := power_loop n hn n 0 (by omega)
  rw [show ((0 : Nat) : Int) = 0 from rfl, show (((2 : Nat) ^ 0 : Nat) : Int) = 1 from rfl] at this
  rw [this]
  rfl
theorem rbuild5 (n : Nat) (hn8 : n ≤ 8) (ls : List ByteArray) (hs : ∀ s, s ∈ ls → s.size ≤ 140737488355328) : ∀ (d k : Nat) (p : Rf) (acc : List Int), k + d = 2 ^ n → acc.length = k → p.rows.length + d ≤ 1000000 → p.met.length ≤ 1000 → (∀ t, (p.hash t).2.rows.length ≤ p.rows.length + 1) →
    L_ref06_Build_5 ((n : Int), ls, (k : Int), ()) ((p.bads, ()), p.draws, (), p.met, acc, p.rows, ()) =
      some ((), (((hashAllR (leafTs ls k d) p).2.bads, ()), (hashAllR (leafTs ls k d) p).2.draws, (), (hashAllR (leafTs ls k d) p).2.met, acc ++ (hashAllR (leafTs ls k d) p).1, (hashAllR (leafTs ls k d) p).2.rows, ()))
  | 0, k, p, acc, hk, ha, hb, hm, hg => by
    rw [Le_ref06_Build_5]
    unfold ltree_ref06_Build_5
    rw [r_Power (by omega)]
    simp only [Option.bind_some]
    rw [cd_f (by omega)]
    simp [leafTs, hashAllR]
  | d + 1, k, p, acc, hk, ha, hb, hm, hg => by
    have hsmall : 2 ^ n ≤ 2 ^ 8 := Nat.pow_le_pow_right (by decide) hn8
    have hlen : ∀ (q : Rf) (t : ByteArray), (q.hash t).2.rows.length ≤ q.rows.length + 1 ∧ (q.hash t).2.met = q.met := by
      intro q t
      unfold Rf.hash Rf.value
      cases q.rows.find? (rmatch 1 0 0 t ByteArray.empty) with
      | some y => exact ⟨Nat.le_succ _, rfl⟩
      | none => exact ⟨by show (q.rows ++ [_]).length ≤ _; simp, rfl⟩
    have ih := rbuild5 n hn8 ls hs d (k + 1) (p.hash (leafT (ls.getD k ByteArray.empty))).2 (acc ++ [(p.hash (leafT (ls.getD k ByteArray.empty))).1]) (by omega) (by simp [ha]) (by have := (hlen p (leafT (ls.getD k ByteArray.empty))).1; omega) (by rw [(hlen p _).2]; exact hm) (fun t => (hlen _ t).1)
    have e1 : IntKind.i64.wrap ((k : Int) + 1) = ((k + 1 : Nat) : Int) := by rw [i64id (by omega) (by omega)]; simp
    have hrange : leafTs ls k (d + 1) = leafT (ls.getD k ByteArray.empty) :: leafTs ls (k + 1) d := by simp [leafTs, List.range'_succ]
    have hlf := r_Leaf p (ls.getD k ByteArray.empty) (getD_size hs k) (by omega) (by omega)
    unfold Rf.m at hlf
    rw [Le_ref06_Build_5]
    unfold ltree_ref06_Build_5
    rw [r_Power (by omega)]
    simp only [Option.bind_some]
    rw [cd_t (by omega), hrange]
    simp only [hashAllR]
    rw [List.append_assoc] at ih
    by_cases hkl : (k : Int) < (ls.length : Int)
    · rw [cd_t hkl, cd_t (by omega), cd_t hkl, Int.toNat_natCast, hlf]
      simp only [Option.bind_some]
      rw [cd_t (by first | omega | (simp; omega)), e1, List.nil_append]
      exact ih
    · have hgd : ls.getD k ByteArray.empty = ByteArray.empty := by
        rw [List.getD_eq_getElem?_getD, List.getElem?_eq_none (by omega)]; rfl
      rw [cd_f hkl]
      rw [hgd] at hlf ih ⊢
      rw [hlf]
      simp only [Option.bind_some]
      rw [cd_t (by first | omega | (simp; omega)), e1, List.nil_append]
      exact ih
theorem hash_len (q : Rf) (t : ByteArray) : (q.hash t).2.rows.length ≤ q.rows.length + 1 ∧ (q.hash t).2.met = q.met := by
  unfold Rf.hash Rf.value
  cases q.rows.find? (rmatch 1 0 0 t ByteArray.empty) with
  | some y => exact ⟨Nat.le_succ _, rfl⟩
  | none => exact ⟨by show (q.rows ++ [_]).length ≤ _; simp, rfl⟩
theorem texts_from (l : List Int) (i d : Nat) (h : i + d = l.length / 2) : (texts l).drop i = (List.range' i d).map fun k => nodeT (l.getD (2 * k) 0) (l.getD (2 * k + 1) 0) := by
  apply List.ext_getElem
  · simp [texts_len]; omega
  · intro k h1 h2
    simp [texts, pairsA]
theorem rbuild14 (l : List Int) (hl : l.length ≤ 1000) (he : l.length % 2 = 0) (hu : ∀ x, x ∈ l → U x) (tr : List (List Int)) : ∀ (d i : Nat) (p : Rf) (acc : List Int), i + d = l.length / 2 → acc.length = i → p.rows.length + d ≤ 1000000 → p.met.length ≤ 1000 →
    L_ref06_Build_14 (l, ((2 * i : Nat) : Int), ()) ((p.bads, ()), p.draws, (), p.met, tr, acc, p.rows, ()) =
      some ((), (((hashAllR ((texts l).drop i) p).2.bads, ()), (hashAllR ((texts l).drop i) p).2.draws, (), (hashAllR ((texts l).drop i) p).2.met, tr, acc ++ (hashAllR ((texts l).drop i) p).1, (hashAllR ((texts l).drop i) p).2.rows, ()))
  | 0, i, p, acc, hi, ha, hb, hm => by
    rw [Le_ref06_Build_14]
    unfold ltree_ref06_Build_14
    rw [cd_f (by omega), List.drop_of_length_le (by rw [texts_len]; omega)]
    simp [hashAllR]
  | d + 1, i, p, acc, hi, ha, hb, hm => by
    have e1 : IntKind.i64.wrap (((2 * i : Nat) : Int) + 1) = ((2 * i + 1 : Nat) : Int) := by rw [i64id (by omega) (by omega)]; simp
    have e2 : IntKind.i64.wrap (((2 * i : Nat) : Int) + 2) = ((2 * (i + 1) : Nat) : Int) := by rw [i64id (by omega) (by omega)]; omega
    have hil : i < (texts l).length := by rw [texts_len]; omega
    have ht : (texts l).drop i = nodeT (l.getD (2 * i) 0) (l.getD (2 * i + 1) 0) :: (texts l).drop (i + 1) := by
      rw [List.drop_eq_getElem_cons hil]
      congr 1
      have := texts_get (l := l) (i := i) (by omega)
      rw [List.getD_eq_getElem?_getD, List.getElem?_eq_getElem hil] at this
      exact this
    have hnd := r_Node p (U_getD hu (2 * i)) (U_getD hu (2 * i + 1)) (by omega) (by omega)
    unfold Rf.m at hnd
    obtain ⟨g1, g2⟩ := hash_len p (nodeT (l.getD (2 * i) 0) (l.getD (2 * i + 1) 0))
    have ih := rbuild14 l hl he hu tr d (i + 1) (p.hash (nodeT (l.getD (2 * i) 0) (l.getD (2 * i + 1) 0))).2 (acc ++ [(p.hash (nodeT (l.getD (2 * i) 0) (l.getD (2 * i + 1) 0))).1]) (by omega) (by simp [ha]) (by omega) (by rw [g2]; exact hm)
    rw [List.append_assoc] at ih
    rw [Le_ref06_Build_14]
    unfold ltree_ref06_Build_14
    rw [cd_t (by omega), cd_t (by omega), cd_t (by omega), cd_t (by rw [e1]; omega), cd_t (by rw [e1]; omega), e1, e2, Int.toNat_natCast, Int.toNat_natCast, hnd, ht]
    simp only [Option.bind_some, hashAllR]
    rw [cd_t (by first | omega | (simp; omega)), List.nil_append]
    exact ih
theorem all_lenR : ∀ (l : List ByteArray) (p : Rf), (hashAllR l p).1.length = l.length ∧ (hashAllR l p).2.rows.length ≤ p.rows.length + l.length ∧ (hashAllR l p).2.met = p.met
  | [], p => ⟨rfl, Nat.le_refl _, rfl⟩
  | t :: l, p => by
    obtain ⟨h1, h2, h3⟩ := all_lenR l (p.hash t).2
    obtain ⟨g1, g2⟩ := hash_len p t
    simp only [hashAllR, List.length_cons]
    exact ⟨by rw [h1], by omega, h3.trans g2⟩
theorem treeR_head (d : Nat) (l : List Int) (p : Rf) : ∃ r, (treeR d l p).1 = l :: r := by
  cases d with
  | zero => exact ⟨[], rfl⟩
  | succ d => exact ⟨_, rfl⟩
theorem rbuild11 : ∀ (d : Nat) (p : Rf) (l : List Int) (tr : List (List Int)), d ≤ 8 → l.length = 2 ^ d → tr.length + d ≤ 20 → (∀ x, x ∈ (treeR d l p).1.dropLast → ∀ y, y ∈ x → U y) → p.rows.length + 2 ^ d ≤ 1000000 → p.met.length ≤ 1000 →
    L_ref06_Build_11 (l, ()) ((p.bads, ()), p.draws, (), p.met, tr, p.rows, ()) =
      some ((), (((treeR d l p).2.bads, ()), (treeR d l p).2.draws, (), (treeR d l p).2.met, tr ++ (treeR d l p).1.tail, (treeR d l p).2.rows, ()))
  | 0, p, l, tr, h8, hl, ht, hu, hb, hm => by
    rw [Le_ref06_Build_11]
    unfold ltree_ref06_Build_11
    rw [cd_f (by simp at hl; omega)]
    simp [treeR]
  | d + 1, p, l, tr, h8, hl, ht, hu, hb, hm => by
    have hpn : (2 : Nat) ^ (d + 1) = 2 ^ d + 2 ^ d := by rw [Nat.pow_succ]; omega
    have hpos : 0 < 2 ^ d := Nat.pow_pos (by decide)
    have hsmall : 2 ^ d ≤ 2 ^ 8 := Nat.pow_le_pow_right (by decide) (by omega)
    have htx : (texts l).length = 2 ^ d := by rw [texts_len, hl]; omega
    obtain ⟨r, hr⟩ := treeR_head d (hashAllR (texts l) p).1 (hashAllR (texts l) p).2
    have hul : ∀ x, x ∈ l → U x := hu l (by simp only [treeR, hr]; rw [List.dropLast_cons_of_ne_nil (by simp)]; simp)
    have h14 := rbuild14 l (by omega) (by omega) hul tr (2 ^ d) 0 p [] (by omega) rfl (by omega) hm
    rw [List.drop_zero, List.nil_append, show ((2 * 0 : Nat) : Int) = 0 from rfl] at h14
    obtain ⟨a1, a2, a3⟩ := all_lenR (texts l) p
    have ih := rbuild11 d (hashAllR (texts l) p).2 (hashAllR (texts l) p).1 (tr ++ [(hashAllR (texts l) p).1]) (by omega) (by rw [a1, htx]) (by simp; omega) (fun x hx => hu x (by
      simp only [treeR]
      rw [List.dropLast_cons_of_ne_nil (by rw [hr]; simp)]
      exact List.mem_cons_of_mem _ hx)) (by omega) (by rw [a3]; exact hm)
    rw [Le_ref06_Build_11]
    unfold ltree_ref06_Build_11
    rw [cd_t (by omega), h14]
    simp only [Option.bind_some]
    rw [cd_t (by first | omega | (simp; omega)), List.nil_append]
    refine Eq.trans ih ?_
    simp only [treeR, List.tail_cons, hr, List.append_assoc, List.singleton_append]

theorem tree_lens' : ∀ {tr : List (List Int)}, ShpL tr → tr.length ≤ 9 → ∀ l, l ∈ tr → l.length ≤ 1000000000000000
  | [], h, _, l, hl => by cases hl
  | m :: r, h, h9, l, hl => by
    rcases List.mem_cons.1 hl with rfl | hl
    · have := shp_pow l r h
      have : 2 ^ r.length ≤ 2 ^ 8 := Nat.pow_le_pow_right (by decide) (by simp at h9; omega)
      omega
    · cases r with
      | nil => cases hl
      | cons m' r => exact tree_lens' h.2 (by simp at h9 ⊢; omega) l hl
theorem MerkleBuilds_plain {draws : List Int} {d : Int} {ls : List ByteArray} (hdr : ∀ x, x ∈ draws → U x) (hdl : draws.length ≤ 17592186044416) (hls : ∀ s, s ∈ ls → s.size ≤ 140737488355328) (hll : ls.length ≤ 1000000000000000) :
    F_law06_MerkleBuilds ((draws, d, ls, ()), ()) () = some (true, ()) := by
  rw [Fe_law06_MerkleBuilds]
  unfold tree_law06_MerkleBuilds
  rw [e_New hdl, r_New (by omega)]
  simp only [Option.bind_some]
  have w := wf_new hdr
  have hr := rel_new draws
  have hd0 : (Or.new draws).drawn ≤ 2000000000000000000 := by show (0 : Int) ≤ _; decide
  have hrow : (Rf.new draws).rows.length = 0 := rfl
  have hmet : (Rf.new draws).met.length = 0 := rfl
  generalize Or.new draws = o at *
  generalize Rf.new draws = p at *
  obtain ⟨hB1, hB2⟩ := e_Build (o := o) (d := d) (ls := ls) w (by omega) hls
  have hR : F_ref06_Build (d, ls, ()) ((p.m.1.1, ()), p.m.2.1, p.m.2.2.1, p.m.2.2.2.1, ()) = tree_ref06_Build F_ref06_Power L_ref06_Build_5 L_ref06_Build_11 d ls p.bads p.draws p.rows p.met some := rfl
  by_cases ok : okBuild d ls
  · have hB := hB1 ok
    obtain ⟨g0, g8, gl⟩ := ok
    obtain ⟨n, rfl⟩ : ∃ n : Nat, d = (n : Int) := ⟨d.toNat, by omega⟩
    simp only [Int.toNat_natCast] at hB gl
    have hsmall : 2 ^ n ≤ 2 ^ 8 := Nat.pow_le_pow_right (by decide) (by omega)
    have hsm : 2 ^ n ≤ 256 := hsmall
    have hB' : F_merkle_Build ((n : Int), ls, ()) ((o.m.1.1, o.m.1.2.1, o.m.1.2.2.1, ()), o.m.2.1, o.m.2.2.1, o.m.2.2.2.1, o.m.2.2.2.2.1, o.m.2.2.2.2.2.1, o.m.2.2.2.2.2.2.1, o.m.2.2.2.2.2.2.2.1, ()) = _ := hB
    rw [hB']
    simp only [Option.bind_some]
    obtain ⟨h1, r1, b1, m1⟩ := rel_all (leafTs ls 0 (2 ^ n)) w hr (by rw [leafTs_len]; omega)
    rw [leafTs_len] at b1
    obtain ⟨w1, x1, d1, f1⟩ := hashAll_wf (leafTs ls 0 (2 ^ n)) w (by rw [leafTs_len]; omega)
    have l1 : (hashAll (leafTs ls 0 (2 ^ n)) o).1.length = 2 ^ n := by rw [hashAll_len, leafTs_len]
    obtain ⟨h2, r2, m2⟩ := rel_tree n (hashAll (leafTs ls 0 (2 ^ n)) o).1 w1 r1 l1 (by omega)
    obtain ⟨w3, x3, d3, t3, u3, len3, hl3, lf3⟩ := build_wf (ls := ls) (d := n) w (by omega) (by omega)
    rw [h1] at h2
    have hT : (buildS n ls o).1 = (treeR n (hashAllR (leafTs ls 0 (2 ^ n)) p).1 (hashAllR (leafTs ls 0 (2 ^ n)) p).2).1 := by
      unfold buildS
      rw [← h2, h1]
    have hRel : Rel (buildS n ls o).2 (treeR n (hashAllR (leafTs ls 0 (2 ^ n)) p).1 (hashAllR (leafTs ls 0 (2 ^ n)) p).2).2 := by
      unfold buildS
      rw [← h1]
      exact r2
    have h5 := rbuild5 n (by omega) ls hls (2 ^ n) 0 p [] (by omega) rfl (by omega) (by omega) (fun t => (hash_len p t).1)
    rw [show ((0 : Nat) : Int) = 0 from rfl, List.nil_append] at h5
    have h11 := rbuild11 n (hashAllR (leafTs ls 0 (2 ^ n)) p).2 (hashAllR (leafTs ls 0 (2 ^ n)) p).1 [(hashAllR (leafTs ls 0 (2 ^ n)) p).1] (by omega) (by rw [(all_lenR _ _).1, leafTs_len]) (by simp; omega) (fun x hx y hy => u3 x (by rw [hT]; exact List.dropLast_subset _ hx) y hy) (by omega) (by rw [m1]; omega)
    have hRB : F_ref06_Build ((n : Int), ls, ()) ((p.m.1.1, ()), p.m.2.1, p.m.2.2.1, p.m.2.2.2.1, ()) = some (((treeR n (hashAllR (leafTs ls 0 (2 ^ n)) p).1 (hashAllR (leafTs ls 0 (2 ^ n)) p).2).1, true, ()), (treeR n (hashAllR (leafTs ls 0 (2 ^ n)) p).1 (hashAllR (leafTs ls 0 (2 ^ n)) p).2).2.mo) := by
      rw [hR]
      unfold tree_ref06_Build
      rw [cd_f (by omega), cd_f (by omega), r_Power (by omega)]
      simp only [Option.bind_some]
      rw [cd_f (by omega), h5]
      simp only [Option.bind_some, List.nil_append]
      rw [h11]
      simp only [Option.bind_some]
      obtain ⟨r, hr⟩ := treeR_head n (hashAllR (leafTs ls 0 (2 ^ n)) p).1 (hashAllR (leafTs ls 0 (2 ^ n)) p).2
      simp only [hr, List.tail_cons, List.singleton_append]
      rfl
    rw [hRB, e_fixed06]
    simp only [Option.bind_some, cond_true]
    have hlens := fun l hl => tree_lens' (shp_of_tree t3) (by rw [len3]; omega) l hl
    rw [← hT, e_Is (by rw [len3]; omega) hlens hlens]
    simp only [Option.bind_some]
    rw [c_t (decide_eq_true trivial), c_t (by rfl)]
    generalize treeR n (hashAllR (leafTs ls 0 (2 ^ n)) p).1 (hashAllR (leafTs ls 0 (2 ^ n)) p).2 = q at *
    have e1 : F_ideal_Oracle_Drawn () (((buildS n ls o).2.m.1.1, (buildS n ls o).2.m.1.2.1, (buildS n ls o).2.m.1.2.2.1, ()), (buildS n ls o).2.m.2.1, (buildS n ls o).2.m.2.2.1, (buildS n ls o).2.m.2.2.2.1, (buildS n ls o).2.m.2.2.2.2.1, (buildS n ls o).2.m.2.2.2.2.2.1, (buildS n ls o).2.m.2.2.2.2.2.2.1, (buildS n ls o).2.m.2.2.2.2.2.2.2.1, ()) = some ((buildS n ls o).2.drawn, ()) := rfl
    have e2 : F_ref03_Oracle_Drawn () ((q.2.mo.1.1, ()), q.2.mo.2.1, q.2.mo.2.2.2.2.1, q.2.mo.2.2.2.1, ()) = some ((q.2.rows.length : Int), ()) := rfl
    have e3 : F_ideal_Oracle_Bad () (((buildS n ls o).2.m.1.1, (buildS n ls o).2.m.1.2.1, (buildS n ls o).2.m.1.2.2.1, ()), (buildS n ls o).2.m.2.1, (buildS n ls o).2.m.2.2.1, (buildS n ls o).2.m.2.2.2.1, (buildS n ls o).2.m.2.2.2.2.1, (buildS n ls o).2.m.2.2.2.2.2.1, (buildS n ls o).2.m.2.2.2.2.2.2.1, (buildS n ls o).2.m.2.2.2.2.2.2.2.1, ()) = some ((buildS n ls o).2.bad, ()) := rfl
    have e4 : F_ref03_Oracle_Bad () ((q.2.mo.1.1, ()), q.2.mo.2.1, q.2.mo.2.2.2.2.1, q.2.mo.2.2.2.1, ()) = some (decide (q.2.bads > 0), ()) := rfl
    rw [e1, e2]
    simp only [Option.bind_some]
    rw [hRel.dn, c_t (beq_self_eq_true _), e3, e4, hRel.bd]
    simp only [Option.bind_some]
    rw [beq_self_eq_true]
  · have hB := hB2 ok
    have hB' : F_merkle_Build (d, ls, ()) ((o.m.1.1, o.m.1.2.1, o.m.1.2.2.1, ()), o.m.2.1, o.m.2.2.1, o.m.2.2.2.1, o.m.2.2.2.2.1, o.m.2.2.2.2.2.1, o.m.2.2.2.2.2.2.1, o.m.2.2.2.2.2.2.2.1, ()) = _ := hB
    rw [hB']
    simp only [Option.bind_some]
    have hRB : F_ref06_Build (d, ls, ()) ((p.m.1.1, ()), p.m.2.1, p.m.2.2.1, p.m.2.2.2.1, ()) = some (([], false, ()), p.mo) := by
      rw [hR]
      unfold tree_ref06_Build
      by_cases h0 : d < 0
      · rw [cd_t h0]; rfl
      · rw [cd_f h0]
        by_cases h8 : d > 8
        · rw [cd_t h8]; rfl
        · rw [cd_f h8]
          obtain ⟨n, rfl⟩ : ∃ n : Nat, d = (n : Int) := ⟨d.toNat, by omega⟩
          have hl : ¬ ls.length ≤ 2 ^ n := fun h => ok ⟨by omega, by omega, by simpa using h⟩
          rw [r_Power (by omega)]
          simp only [Option.bind_some]
          rw [cd_t (by omega)]
          rfl
    rw [hRB, e_fixed06]
    simp only [Option.bind_some, cond_true]
    rw [e_Is (by decide) (by intro l hl; cases hl) (by intro l hl; cases hl)]
    simp only [Option.bind_some]
    have e1 : F_ideal_Oracle_Drawn () ((o.m.1.1, o.m.1.2.1, o.m.1.2.2.1, ()), o.m.2.1, o.m.2.2.1, o.m.2.2.2.1, o.m.2.2.2.2.1, o.m.2.2.2.2.2.1, o.m.2.2.2.2.2.2.1, o.m.2.2.2.2.2.2.2.1, ()) = some (o.drawn, ()) := rfl
    have e2 : F_ref03_Oracle_Drawn () ((p.mo.1.1, ()), p.mo.2.1, p.mo.2.2.2.2.1, p.mo.2.2.2.1, ()) = some ((p.rows.length : Int), ()) := rfl
    have e3 : F_ideal_Oracle_Bad () ((o.m.1.1, o.m.1.2.1, o.m.1.2.2.1, ()), o.m.2.1, o.m.2.2.1, o.m.2.2.2.1, o.m.2.2.2.2.1, o.m.2.2.2.2.2.1, o.m.2.2.2.2.2.2.1, o.m.2.2.2.2.2.2.2.1, ()) = some (o.bad, ()) := rfl
    have e4 : F_ref03_Oracle_Bad () ((p.mo.1.1, ()), p.mo.2.1, p.mo.2.2.2.2.1, p.mo.2.2.2.1, ()) = some (decide (p.bads > 0), ()) := rfl
    rw [c_t (decide_eq_true trivial), c_t (by rfl), e1, e2]
    simp only [Option.bind_some]
    rw [hr.dn, c_t (beq_self_eq_true _), e3, e4, hr.bd]
    simp only [Option.bind_some]
    rw [beq_self_eq_true]
end Go.Proofs.Ytljfdfghagiblaa.S2.Mk
