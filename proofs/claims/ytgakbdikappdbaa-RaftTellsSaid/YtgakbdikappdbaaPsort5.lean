/- The library's sort, at uint64: insertion of a few. -/
import Derived.Test.YtgakbdikappdbaaPsort4
set_option linter.unusedVariables false
set_option linter.unusedSimpArgs false
namespace Go.Proofs.Ytgakbdikappdbaa.S2
open Go Go.Sort
theorem scanSorted_in (d : Array Int) (b : Nat) : ∀ (r i : Nat), b - i ≤ r → i ≤ scanSorted ltInt d b i ∧ (i ≤ b → scanSorted ltInt d b i ≤ b) := by
  intro r
  induction r with
  | zero => intro i h; rw [scanSorted, if_neg (by simp; omega)]; exact ⟨Nat.le_refl _, fun h => h⟩
  | succ r ih =>
    intro i h
    rw [scanSorted]
    split
    · rename_i hc
      simp only [Bool.and_eq_true, decide_eq_true_eq] at hc
      obtain ⟨h1, h2⟩ := ih (i + 1) (by omega)
      exact ⟨by omega, fun _ => h2 (by omega)⟩
    · exact ⟨Nat.le_refl _, fun h => h⟩
theorem e_scanSorted (a b s : Nat) (d : Array Int) (hb : b ≤ d.size) (hd : d.size ≤ 17592186044416) : ∀ (r i : Nat), b - i ≤ r → 1 ≤ i →
    L_slices_partialInsertionSortOrdered_uint64_5 ((a : Int), (b : Int), (i : Int), (s : Int), ()) (d.toList, ()) = some (((a : Int), (b : Int), ((scanSorted ltInt d b i : Nat) : Int), (s : Int), ()), (d.toList, ())) := by
  intro r
  induction r with
  | zero =>
    intro i h hi
    rw [Le_slices_partialInsertionSortOrdered_uint64_5]
    unfold ltree_slices_partialInsertionSortOrdered_uint64_5
    rw [cd_f (by omega), scanSorted, if_neg (by simp; omega)]
  | succ r ih =>
    intro i h hi
    rw [Le_slices_partialInsertionSortOrdered_uint64_5]
    unfold ltree_slices_partialInsertionSortOrdered_uint64_5
    rw [scanSorted]
    by_cases hib : i < b
    · have e1 : IntKind.i64.wrap ((i : Int) - 1) = ((i - 1 : Nat) : Int) := by rw [i64id] <;> omega
      rw [decide_eq_true hib, Bool.true_and]
      simp (disch := omega) only [e1, Int.toNat_natCast, getL0, Array.length_toList, cd_t, e_less, Option.bind_some]
      rw [show IntKind.i64.wrap ((i : Int) + 1) = ((i + 1 : Nat) : Int) by rw [i64id] <;> omega, ih (i + 1) (by omega) (by omega)]
      cases ltInt d[i]! d[i - 1]! with
      | false => rfl
      | true => rfl
    · rw [cd_f (by omega), decide_eq_false hib, Bool.false_and]
      rfl
theorem size_shiftDown : ∀ (j : Nat) (d : Array Int), (shiftDown ltInt j d).size = d.size
  | 0, d => rfl
  | j + 1, d => by
    rw [shiftDown]
    split
    · rfl
    · rw [size_shiftDown, size_swp]
theorem e_shiftDown (x1 x2 x3 x4 : Int) : ∀ (j : Nat) (d : Array Int), j < d.size → d.size ≤ 17592186044416 →
    L_slices_partialInsertionSortOrdered_uint64_14 (x1, x2, x3, x4, (j : Int), ()) (d.toList, ()) = some ((x1, x2, x3, x4, ()), ((shiftDown ltInt j d).toList, ()))
  | 0, d, hj, hd => by
    rw [Le_slices_partialInsertionSortOrdered_uint64_14]
    unfold ltree_slices_partialInsertionSortOrdered_uint64_14
    rw [cd_f (by omega)]
    rfl
  | j + 1, d, hj, hd => by
    rw [Le_slices_partialInsertionSortOrdered_uint64_14]
    unfold ltree_slices_partialInsertionSortOrdered_uint64_14
    have e1 : IntKind.i64.wrap (((j + 1 : Nat) : Int) - 1) = (j : Int) := by rw [i64id] <;> omega
    simp (disch := omega) only [e1, Int.toNat_natCast, getL0, swpL0, List.length_set, Array.length_toList, cd_t, e_less, Option.bind_some]
    rw [shiftDown]
    cases ltInt d[j + 1]! d[j]! with
    | false => rfl
    | true =>
      simp only [Bool.not_true, cond_false, Bool.false_eq_true, if_false]
      exact e_shiftDown x1 x2 x3 x4 j _ (by rw [size_swp]; omega) (by rw [size_swp]; exact hd)
theorem size_shiftUp (b : Nat) : ∀ (r j : Nat) (d : Array Int), b - j ≤ r → (shiftUp ltInt b j d).size = d.size := by
  intro r
  induction r with
  | zero => intro j d h; rw [shiftUp, if_neg (by omega)]
  | succ r ih =>
    intro j d h
    rw [shiftUp]
    split
    · split
      · rfl
      · rw [ih _ _ (by omega), size_swp]
    · rfl
theorem e_shiftUp (x1 x3 x4 : Int) (b : Nat) : ∀ (r j : Nat) (d : Array Int), b - j ≤ r → 1 ≤ j → b ≤ d.size → d.size ≤ 17592186044416 →
    L_slices_partialInsertionSortOrdered_uint64_20 (x1, (b : Int), x3, x4, (j : Int), ()) (d.toList, ()) = some ((x1, (b : Int), x3, x4, ()), ((shiftUp ltInt b j d).toList, ())) := by
  intro r
  induction r with
  | zero =>
    intro j d h h1 hb hd
    rw [Le_slices_partialInsertionSortOrdered_uint64_20]
    unfold ltree_slices_partialInsertionSortOrdered_uint64_20
    rw [cd_f (by omega), shiftUp, if_neg (by omega)]
  | succ r ih =>
    intro j d h h1 hb hd
    rw [Le_slices_partialInsertionSortOrdered_uint64_20]
    unfold ltree_slices_partialInsertionSortOrdered_uint64_20
    rw [shiftUp]
    by_cases hj : j < b
    · have e1 : IntKind.i64.wrap ((j : Int) - 1) = ((j - 1 : Nat) : Int) := by rw [i64id] <;> omega
      have e2 : IntKind.i64.wrap ((j : Int) + 1) = ((j + 1 : Nat) : Int) := by rw [i64id] <;> omega
      simp (disch := omega) only [e1, e2, Int.toNat_natCast, getL0, swpL0, List.length_set, Array.length_toList, cd_t, e_less, Option.bind_some]
      rw [if_pos hj]
      cases ltInt d[j]! d[j - 1]! with
      | false => rfl
      | true =>
        simp only [Bool.not_true, cond_false, Bool.false_eq_true, if_false]
        exact ih _ _ (by omega) (by omega) (by rw [size_swp]; exact hb) (by rw [size_swp]; exact hd)
    · rw [cd_f (by omega), if_neg hj]
theorem e_partialIns (a b : Nat) : ∀ (s i : Nat) (d : Array Int), s ≤ 5 → a < i → i ≤ b → b ≤ d.size → d.size ≤ 17592186044416 →
    ∃ o, L_slices_partialInsertionSortOrdered_uint64_3 ((a : Int), (b : Int), (i : Int), ((5 - s : Nat) : Int), ()) (d.toList, ()) = some o ∧
      Sum.elim (fun u => (u.1.1, u.2.1)) (fun u => (false, u.2.1)) o = ((partialIns ltInt a b s i d).2, (partialIns ltInt a b s i d).1.toList)
  | 0, i, d, hs, ha, hi, hb, hd => by
    rw [Le_slices_partialInsertionSortOrdered_uint64_3]
    unfold ltree_slices_partialInsertionSortOrdered_uint64_3
    rw [cd_f (by omega)]
    exact ⟨_, rfl, rfl⟩
  | s + 1, i, d, hs, ha, hi, hb, hd => by
    rw [Le_slices_partialInsertionSortOrdered_uint64_3]
    unfold ltree_slices_partialInsertionSortOrdered_uint64_3
    rw [cd_t (by omega), e_scanSorted a b _ d hb hd _ i (Nat.le_refl _) (by omega)]
    simp only [Option.bind_some]
    rw [partialIns]
    dsimp only
    obtain ⟨h1, h2⟩ := scanSorted_in d b _ i (Nat.le_refl _)
    have h2 := h2 hi
    generalize scanSorted ltInt d b i = I at *
    by_cases hI : I = b
    · subst hI
      rw [c_t (by simp), if_pos rfl]
      exact ⟨_, rfl, rfl⟩
    · rw [c_f (by simp; omega), if_neg hI, show IntKind.i64.wrap ((b : Int) - (a : Int)) = ((b - a : Nat) : Int) by rw [i64id] <;> omega]
      by_cases h50 : b - a < 50
      · rw [cd_t (by omega), if_pos h50]
        exact ⟨_, rfl, rfl⟩
      · have e1 : IntKind.i64.wrap ((I : Int) - 1) = ((I - 1 : Nat) : Int) := by rw [i64id] <;> omega
        have e2 : IntKind.i64.wrap ((I : Int) - (a : Int)) = ((I - a : Nat) : Int) := by rw [i64id] <;> omega
        have e3 : IntKind.i64.wrap ((b : Int) - (I : Int)) = ((b - I : Nat) : Int) := by rw [i64id] <;> omega
        have e4 : IntKind.i64.wrap ((I : Int) + 1) = ((I + 1 : Nat) : Int) := by rw [i64id] <;> omega
        have e5 : IntKind.i64.wrap (((5 - (s + 1) : Nat) : Int) + 1) = ((5 - s : Nat) : Int) := by rw [i64id] <;> omega
        rw [cd_f (by omega), if_neg h50]
        simp (disch := omega) only [e1, e2, e3, e4, e5, Int.toNat_natCast, getL0, swpL0, List.length_set, Array.length_toList, cd_t]
        have hsz := size_swp d I (I - 1)
        generalize swp d I (I - 1) = D at *
        by_cases h3 : I - a ≥ 2
        · rw [cd_t (by omega), if_pos h3, e_shiftDown _ _ _ _ (I - 1) D (by omega) (by omega)]
          simp only [Option.bind_some]
          have hsz2 := size_shiftDown (I - 1) D
          generalize shiftDown ltInt (I - 1) D = D2 at *
          rw [e3]
          by_cases h4 : b - I ≥ 2
          · rw [cd_t (by omega), if_pos h4, e4, e_shiftUp _ _ _ b _ (I + 1) D2 (Nat.le_refl _) (by omega) (by omega) (by omega)]
            simp only [Option.bind_some]
            rw [e5]
            exact e_partialIns a b s I _ (by omega) (by omega) h2 (by rw [size_shiftUp _ _ _ _ (Nat.le_refl _)]; omega) (by rw [size_shiftUp _ _ _ _ (Nat.le_refl _)]; omega)
          · rw [cd_f (by omega), if_neg h4, e5]
            exact e_partialIns a b s I _ (by omega) (by omega) h2 (by omega) (by omega)
        · rw [cd_f (by omega), if_neg h3]
          by_cases h4 : b - I ≥ 2
          · rw [cd_t (by omega), if_pos h4, e_shiftUp _ _ _ b _ (I + 1) D (Nat.le_refl _) (by omega) (by omega) (by omega)]
            simp only [Option.bind_some]
            rw [e5]
            exact e_partialIns a b s I _ (by omega) (by omega) h2 (by rw [size_shiftUp _ _ _ _ (Nat.le_refl _)]; omega) (by rw [size_shiftUp _ _ _ _ (Nat.le_refl _)]; omega)
          · rw [cd_f (by omega), if_neg h4]
            exact e_partialIns a b s I _ (by omega) (by omega) h2 (by omega) (by omega)
theorem e_partialInsertionSort {a b : Nat} {d : Array Int} (hab : a < b) (hb : b ≤ d.size) (hd : d.size ≤ 17592186044416) :
    F_slices_partialInsertionSortOrdered_uint64 ((a : Int), (b : Int), ()) (d.toList, ()) = some ((partialInsertionSort ltInt d a b).2, ((partialInsertionSort ltInt d a b).1.toList, ())) := by
  rw [Fe_slices_partialInsertionSortOrdered_uint64]
  unfold tree_slices_partialInsertionSortOrdered_uint64
  rw [show IntKind.i64.wrap ((a : Int) + 1) = ((a + 1 : Nat) : Int) by rw [i64id] <;> omega]
  obtain ⟨o, ho, he⟩ := e_partialIns a b 5 (a + 1) d (Nat.le_refl _) (by omega) (by omega) hb hd
  have ho : L_slices_partialInsertionSortOrdered_uint64_3 ((a : Int), (b : Int), ((a + 1 : Nat) : Int), 0, ()) (d.toList, ()) = some o := ho
  rw [ho]
  rcases o with o | o
  · have he : (o.1.1, o.2.1) = _ := he
    cases he' : o.1.1
    all_goals (rw [he'] at he; simp only [Option.bind_some, Sum.elim_inl, he']; injection he with h1 h2; rw [h2]; unfold partialInsertionSort; rw [← h1])
  · have he : (false, o.2.1) = _ := he
    simp only [Option.bind_some, Sum.elim_inr]
    injection he with h1 h2
    rw [h2]
    unfold partialInsertionSort
    rw [← h1]
end Go.Proofs.Ytgakbdikappdbaa.S2
