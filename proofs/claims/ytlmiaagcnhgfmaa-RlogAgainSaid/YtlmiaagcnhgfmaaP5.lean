/- Of two logs which one is newer; sent again. -/
import Derived.Test.YtlmiaagcnhgfmaaP4
set_option linter.unusedVariables false
set_option linter.unusedSimpArgs false
namespace Go.Proofs.Ytlmiaagcnhgfmaa.S2
open Go

theorem term_last (b t : Int) (xs : List E) (e : E) : (termS b t (xs ++ [e]) (b + ((xs ++ [e]).length : Int))).1 = e.1 := by
  unfold termS entS
  rw [if_neg (by simp; omega), if_pos (by simp; omega), show (b + ((xs ++ [e]).length : Int) - b - 1).toNat = xs.length by simp; omega]
  simp [List.getD]

/-- What stands behind the tests on two logs. -/
theorem Orders_rest {b t u k : Int} {xs : List E} {z : ByteArray} (hb : 0 ≤ b ∧ b ≤ 4611686018427387904) (hx : xs.length ≤ 256) :
    ((F_rlog_Append ((b, t, xs, ()), [] ++ [(u, k, z)], ()) ()).bind fun r17 =>
           cond (!r17.fst.snd.fst)
           (some (true, ()))
           (cond (decide (u < (termS b t xs (b + xs.length)).1))
            (some (true, ()))
            ((F_rlog_Last ((r17.fst.fst.fst, r17.fst.fst.snd.fst, r17.fst.fst.snd.snd.fst, ()), ()) ()).bind fun r18 =>
             (F_rlog_Newer ((b, t, xs, ()), r18.fst, u, ()) ()).bind fun r19 =>
             cond (r19.fst)
             ((F_rlog_Newer   ((r17.fst.fst.fst, r17.fst.fst.snd.fst, r17.fst.fst.snd.snd.fst, ()), b + xs.length, (termS b t xs (b + xs.length)).1, ()) ()).bind fun r21 =>
              some (!r21.fst, ()))
             (some (false, ()))))) = some (true, ()) := by
  rw [e_Append hx (by simp)]
  simp only [Option.bind_some]
  by_cases h : xs.length + ([] ++ [(u, k, z)] : List E).length > 256
  · rw [if_pos h]
    rfl
  · rw [if_neg h]
    simp only [Bool.not_true, cond_false]
    have hl : ([] ++ [(u, k, z)] : List E) = [(u, k, z)] := rfl
    rw [cond_decide, hl]
    by_cases h1 : u < (termS b t xs (b + xs.length)).1
    · rw [if_pos h1]
    · rw [if_neg h1, e_rlog_Last hb.1 (by simp; omega) (by simp; omega)]
      simp only [Option.bind_some]
      rw [e_Newer hb (by omega)]
      simp only [Option.bind_some]
      have e1 : newerS b t xs (b + ((xs ++ [(u, k, z)]).length : Int)) u = true := by
        unfold newerS
        refine decide_eq_true ?_
        simp
        omega
      rw [e1]
      simp only [cond_true]
      rw [e_Newer hb (by simp; omega)]
      simp only [Option.bind_some]
      have e2 : newerS b t (xs ++ [(u, k, z)]) (b + xs.length) (termS b t xs (b + xs.length)).1 = false := by
        unfold newerS
        rw [term_last]
        refine decide_eq_false ?_
        simp
        omega
      rw [e2]
      rfl

theorem RlogOrders_plain {b t c s u k : Int} {xs ys : List E} {z : ByteArray} (hb : U b) (hc : U c) :
    F_law15_RlogOrders ((b, t, xs, ()), (c, s, ys, ()), (u, k, z, ()), ()) () = some (true, ()) := by
  rw [Fe_law15_RlogOrders]
  unfold tree_law15_RlogOrders
  rw [e_fixed]
  simp only [Option.bind_some, Bool.not_true, cond_false]
  rw [e_May]
  simp only [Option.bind_some]
  by_cases hm : b ≤ 4611686018427387904 ∧ xs.length ≤ 256
  · have hb' : 0 ≤ b ∧ b ≤ 4611686018427387904 := ⟨hb.1, hm.1⟩
    rw [decide_eq_true hm]
    simp only [Bool.not_true, cond_false]
    rw [e_May]
    simp only [Option.bind_some]
    by_cases hn : c ≤ 4611686018427387904 ∧ ys.length ≤ 256
    · have hc' : 0 ≤ c ∧ c ≤ 4611686018427387904 := ⟨hc.1, hn.1⟩
      rw [decide_eq_true hn]
      simp only [Bool.not_true, cond_false]
      rw [e_rlog_Last hb.1 (by omega) (by omega), e_rlog_Last hc.1 (by omega) (by omega)]
      simp only [Option.bind_some]
      rw [e_rlog_Term ⟨hb.1, by omega⟩ ⟨by omega, by omega⟩ (by omega), e_rlog_Term ⟨hc.1, by omega⟩ ⟨by omega, by omega⟩ (by omega)]
      simp only [Option.bind_some]
      rw [e_Newer hb' (by omega), e_Newer hc' (by omega)]
      simp only [Option.bind_some]
      rw [Orders_rest hb' hm.2]
      unfold newerS
      generalize (termS b t xs (b + xs.length)).1 = A
      generalize (termS c s ys (c + ys.length)).1 = B
      rw [cond_eqi]
      by_cases h1 : B > A ∨ (B = A ∧ c + (ys.length : Int) ≥ b + xs.length)
      · rw [decide_eq_true h1]
        simp only [Bool.not_true, cond_false, cond_true]
        by_cases h2 : A > B ∨ (A = B ∧ b + (xs.length : Int) ≥ c + ys.length)
        · rw [decide_eq_true h2, if_pos (by omega)]
          have h3 : b + (xs.length : Int) = c + ys.length := by omega
          rw [h3]
          simp
        · rw [decide_eq_false h2]
          by_cases h4 : A = B
          · rw [if_pos h4]
            cases (true != (b + (xs.length : Int) == c + ys.length)) <;> simp
            all_goals (cases (b + (xs.length : Int) == c + ys.length) <;> rfl)
          · rw [if_neg h4]
            rfl
      · rw [decide_eq_false h1, decide_eq_true (show A > B ∨ (A = B ∧ b + (xs.length : Int) ≥ c + ys.length) by omega)]
        rfl
    · rw [decide_eq_false hn]
      rfl
  · rw [decide_eq_false hm]
    rfl

/-! ### sent again -/

theorem agree_self_append : ∀ (zs es : List E), zs.length ≤ es.length → agree zs es = zs.length → agree (zs ++ es.drop zs.length) es = es.length
  | [], [], _, _ => rfl
  | [], e :: es, _, _ => by
    have h : ∀ (l : List E), agree l l = l.length := by
      intro l
      induction l with
      | nil => rfl
      | cons x l ih => simp [agree, ih]
    simpa using h (e :: es)
  | z :: zs, [], h, _ => by simp at h
  | z :: zs, e :: es, h, hk => by
    simp only [agree] at hk
    split at hk
    · rename_i hz
      simp at hk h
      simp only [List.cons_append, List.length_cons, List.drop_succ_cons, agree]
      rw [if_pos hz, agree_self_append zs es h hk]
    · simp at hk

theorem agree_take : ∀ (zs es : List E) (k : Nat), k ≤ agree zs es → agree (zs.take k) es = k
  | zs, es, 0, _ => by simp [agree]
  | [], es, k + 1, h => by simp [agree] at h
  | z :: zs, [], k + 1, h => by simp [agree] at h
  | z :: zs, e :: es, k + 1, h => by
    simp only [agree] at h
    split at h
    · rename_i hz
      simp only [List.take_succ_cons, agree]
      rw [if_pos hz, agree_take zs es k (by omega)]
    · omega

/-- What is there once it was laid agrees with what was sent. -/
theorem agree_laid (zs es : List E) : agree (zs.take (agree zs es) ++ es.drop (agree zs es)) es = es.length := by
  have h := agree_le zs es
  have h1 := agree_take zs es (agree zs es) (Nat.le_refl _)
  have h2 : (zs.take (agree zs es)).length = agree zs es := by simp; omega
  have := agree_self_append (zs.take (agree zs es)) es (by omega) (by rw [h1, h2])
  rwa [h2] at this

theorem agree_prefix : ∀ (zs es : List E) (k : Nat), agree zs es = es.length → agree zs (es.take k) = (es.take k).length
  | zs, es, 0, _ => by cases zs <;> simp [agree]
  | zs, [], k + 1, _ => by cases zs <;> simp [agree]
  | [], e :: es, k + 1, h => by simp [agree] at h
  | z :: zs, e :: es, k + 1, h => by
    simp only [agree] at h
    split at h
    · rename_i hz
      simp at h
      simp only [List.take_succ_cons, agree]
      rw [if_pos hz, agree_prefix zs es k h]
      rfl
    · simp at h

theorem getD_take {l : List E} {n i : Nat} (h : i < n) : l.getD i E0 = (l.take n).getD i E0 := by
  rw [List.getD_eq_getElem?_getD, List.getD_eq_getElem?_getD, List.getElem?_take, if_pos h]

/-- A log in which entries stand behind a place. -/
structure Stands (xs ys : List E) (a : Nat) (es : List E) : Prop where
  le : a ≤ xs.length
  head : ys.take a = xs.take a
  all : agree (ys.drop a) es = es.length

theorem layS_stands {xs es : List E} {a : Nat} {last : Int} (ha : a ≤ xs.length) (hok : (layS xs a last es).2.2 = true) : Stands xs (layS xs a last es).1 a es ∧ (layS xs a last es).2.1 = last := by
  unfold layS at hok ⊢
  split
  · rename_i h
    exact ⟨⟨ha, rfl, h⟩, rfl⟩
  · rename_i h
    rw [if_neg h] at hok
    split
    · rename_i h2
      rw [if_pos h2] at hok
      cases hok
    · refine ⟨⟨ha, ?_, ?_⟩, rfl⟩
      · have := (agree_le (xs.drop a) es).1
        simp at this
        rw [List.take_append_of_le_length (by simp; omega), List.take_take, Nat.min_eq_left (by omega)]
      · have h3 : (xs.take (a + agree (xs.drop a) es) ++ es.drop (agree (xs.drop a) es)).drop a = (xs.drop a).take (agree (xs.drop a) es) ++ es.drop (agree (xs.drop a) es) := by
          have := (agree_le (xs.drop a) es).1
          simp at this
          rw [List.drop_append_of_le_length (by simp; omega), List.drop_take, Nat.add_sub_cancel_left]
        show agree (List.drop a (xs.take (a + agree (xs.drop a) es) ++ es.drop (agree (xs.drop a) es))) es = es.length
        rw [h3]
        exact agree_laid _ _

theorem layS_again {xs ys es : List E} {a : Nat} {last : Int} (h : Stands xs ys a es) : layS ys a last es = (ys, last, true) := by
  unfold layS
  rw [if_pos h.all]

theorem layS_less {xs ys es : List E} {a : Nat} {last : Int} (h : Stands xs ys a es) (k : Nat) : layS ys a last (es.take k) = (ys, last, true) := by
  unfold layS
  rw [if_pos (agree_prefix _ _ _ h.all)]

theorem stands_len {xs ys es : List E} {a : Nat} (h : Stands xs ys a es) : a ≤ ys.length ∧ a + es.length ≤ ys.length := by
  have h1 := (agree_le (ys.drop a) es).1
  have h2 := h.all
  have h3 := congrArg List.length h.head
  have h4 := h.le
  simp at h1 h3
  omega

theorem stands_get {xs ys es : List E} {a : Nat} (h : Stands xs ys a es) {j : Nat} (hj : j < es.length) : ∃ (h1 : a + j < ys.length), ys[a + j].1 = es[j].1 := by
  obtain ⟨h1, h2, h3⟩ := agree_step (xs := ys.drop a) (es := es) (k := j) (by rw [h.all]; exact hj)
  have := h3 h1 h2
  simp at h1 this
  exact ⟨by omega, this⟩

theorem stands_term {xs ys es : List E} {a : Nat} (h : Stands xs ys a es) {b t p : Int} (hp : (p - b).toNat = a) (hbp : b ≤ p) : termS b t ys p = termS b t xs p := by
  unfold termS
  split
  · rfl
  · have h1 := (stands_len h).1
    have h2 := h.le
    unfold entS
    rw [if_pos (by omega), if_pos (by omega)]
    have e : (p - b - 1).toNat < a := by omega
    have e1 : ys.getD (p - b - 1).toNat E0 = (ys.take a).getD (p - b - 1).toNat E0 := getD_take e
    have e2 : xs.getD (p - b - 1).toNat E0 = (xs.take a).getD (p - b - 1).toNat E0 := getD_take e
    rw [e1, e2, h.head]

/-- What is so where entries were taken. -/
theorem merged {b t p q : Int} {xs es : List E} (hok : (mergeS b t xs p q es).2.2 = true) (hb : 0 ≤ b) :
    (mergeS b t xs p q es).2.1 = p + es.length ∧ p ≤ 9223372036854775808 ∧ p + es.length ≤ 9223372036854775808 ∧
    ((p < b ∧ (es.length : Int) < b - p ∧ (mergeS b t xs p q es).1 = xs) ∨
     (p < b ∧ ¬ (es.length : Int) < b - p ∧ Stands xs (mergeS b t xs p q es).1 0 (es.drop (b - p).toNat)) ∨
     (b ≤ p ∧ termS b t xs p = (q, true) ∧ Stands xs (mergeS b t xs p q es).1 (p - b).toNat es)) := by
  unfold mergeS at hok ⊢
  by_cases h1 : p > 9223372036854775808 ∨ es.length > 9223372036854775808 - p
  · rw [if_pos h1] at hok
    cases hok
  rw [if_neg h1] at hok ⊢
  by_cases h2 : p < b
  · rw [if_pos h2] at hok ⊢
    by_cases h3 : (es.length : Int) < b - p
    · rw [if_pos h3] at hok ⊢
      exact ⟨rfl, by omega, by omega, .inl ⟨h2, h3, rfl⟩⟩
    · rw [if_neg h3] at hok ⊢
      obtain ⟨h4, h5⟩ := layS_stands (Nat.zero_le _) hok
      exact ⟨h5, by omega, by omega, .inr (.inl ⟨h2, h3, h4⟩)⟩
  · rw [if_neg h2] at hok ⊢
    by_cases h3 : termS b t xs p = (q, true)
    · rw [if_pos h3] at hok ⊢
      have := term_in (congrArg Prod.snd h3)
      obtain ⟨h4, h5⟩ := layS_stands (by omega) hok
      exact ⟨h5, by omega, by omega, .inr (.inr ⟨by omega, h3, h4⟩)⟩
    · rw [if_neg h3] at hok
      cases hok

/-- Sent again, or its first ones: nothing changes. -/
theorem merged_less {b t p q : Int} {xs es : List E} (hok : (mergeS b t xs p q es).2.2 = true) (hb : 0 ≤ b) (hp : 0 ≤ p) (k : Nat) :
    mergeS b t (mergeS b t xs p q es).1 p q (es.take k) = ((mergeS b t xs p q es).1, p + (es.take k).length, true) := by
  obtain ⟨h1, h2, h3, h⟩ := merged hok hb
  generalize (mergeS b t xs p q es).1 = ys at h
  have hk : (es.take k).length ≤ es.length := by simp; omega
  unfold mergeS
  rw [if_neg (by omega)]
  rcases h with ⟨h4, h5, rfl⟩ | ⟨h4, h5, h6⟩ | ⟨h4, h5, h6⟩
  · rw [if_pos h4, if_pos (by omega)]
  · rw [if_pos h4]
    by_cases h7 : ((es.take k).length : Int) < b - p
    · rw [if_pos h7]
    · rw [if_neg h7, List.drop_take]
      exact layS_less h6 _
  · rw [if_neg (show ¬ p < b by omega), stands_term h6 rfl h4, if_pos h5]
    exact layS_less h6 _

theorem merged_again {b t p q : Int} {xs es : List E} (hok : (mergeS b t xs p q es).2.2 = true) (hb : 0 ≤ b) (hp : 0 ≤ p) :
    mergeS b t (mergeS b t xs p q es).1 p q es = ((mergeS b t xs p q es).1, p + es.length, true) := by
  have := merged_less hok hb hp es.length
  rwa [List.take_length] at this

theorem merged_term {b t p q : Int} {xs es : List E} (hok : (mergeS b t xs p q es).2.2 = true) (hb : 0 ≤ b) (hp : 0 ≤ p) {i : Nat} (hi : i < es.length) (hpb : p + i + 1 > b) :
    termS b t (mergeS b t xs p q es).1 (p + i + 1) = ((es.getD i (0, 0, ByteArray.empty)).1, true) := by
  obtain ⟨h1, h2, h3, h⟩ := merged hok hb
  generalize (mergeS b t xs p q es).1 = ys at h
  have he : es.getD i (0, 0, ByteArray.empty) = es[i] := by simp [List.getD, hi]
  rw [he]
  unfold termS entS
  rw [if_neg (by omega)]
  rcases h with ⟨h4, h5, rfl⟩ | ⟨h4, h5, h6⟩ | ⟨h4, h5, h6⟩
  · omega
  · have hj : i - (b - p).toNat < (es.drop (b - p).toNat).length := by simp; omega
    obtain ⟨h7, h8⟩ := stands_get h6 hj
    rw [if_pos (by omega), show (p + i + 1 - b - 1 : Int).toNat = 0 + (i - (b - p).toNat) by omega]
    simp only [List.getD, List.getElem?_eq_getElem h7, Option.getD_some, h8]
    simp only [List.getElem_drop]
    congr 2
    congr 1
    omega
  · obtain ⟨h7, h8⟩ := stands_get h6 hi
    rw [if_pos (by omega), show (p + i + 1 - b - 1 : Int).toNat = (p - b).toNat + i by omega]
    simp only [List.getD, List.getElem?_eq_getElem h7, Option.getD_some, h8]

theorem merged_entry {b t p q : Int} {xs es : List E} (hok : (mergeS b t xs p q es).2.2 = true) (hb : 0 ≤ b) (hp : 0 ≤ p) {i : Int} (hi : b < i) (hip : i ≤ p) (hil : i ≤ b + xs.length) :
    entS b (mergeS b t xs p q es).1 i = entS b xs i ∧ (entS b xs i).2 = true := by
  obtain ⟨h1, h2, h3, h⟩ := merged hok hb
  generalize (mergeS b t xs p q es).1 = ys at h
  rcases h with ⟨h4, h5, rfl⟩ | ⟨h4, h5, h6⟩ | ⟨h4, h5, h6⟩
  · omega
  · omega
  · have h7 := (stands_len h6).1
    have h8 := h6.le
    unfold entS
    rw [if_pos (by omega), if_pos (by omega)]
    have e : (i - b - 1).toNat < (p - b).toNat := by omega
    have e1 : ys.getD (i - b - 1).toNat E0 = (ys.take (p - b).toNat).getD (i - b - 1).toNat E0 := getD_take e
    have e2 : xs.getD (i - b - 1).toNat E0 = (xs.take (p - b).toNat).getD (i - b - 1).toNat E0 := getD_take e
    rw [e1, e2, h6.head]
    exact ⟨rfl, rfl⟩
end Go.Proofs.Ytlmiaagcnhgfmaa.S2
