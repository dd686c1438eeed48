/- The library's sort, at uint64: what its parts compute, in the words of the library's own plain layer. -/
import Derived.Test.YtgakbdikappdbaaPbase
import Derived.Test.YtgakbdikappdbaaGsort
import Derived.Sort.AssemblyPlain
set_option linter.unusedVariables false
set_option linter.unusedSimpArgs false
namespace Go.Proofs.Ytgakbdikappdbaa.S2
open Go Go.Sort
theorem e_less (x y : Int) : F_cmp_Less_uint64 (x, y, ()) () = some (ltInt x y, ()) := by
  rw [Fe_cmp_Less_uint64]
  unfold tree_cmp_Less_uint64
  rw [Fe_cmp_isNaN_uint64]
  unfold tree_cmp_isNaN_uint64
  simp only [Option.bind_some]
  rw [c_f (by simp)]
  rfl
theorem getL (d : Array Int) (k : Nat) : d.toList.getD k 0 = d[k]! := by
  rw [Array.getElem!_eq_getD, List.getD_eq_getElem?_getD, Array.getElem?_toList, Array.getD_eq_getD_getElem?]
  rfl
theorem getL0 (d : Array Int) (k : Nat) : d.toList.getD (0 + k) 0 = d[k]! := by rw [Nat.zero_add, getL]
theorem swpL (d : Array Int) (i j : Nat) : (d.toList.set i d[j]!).set j d[i]! = (swp d i j).toList := by
  unfold swp
  rw [Array.toList_setIfInBounds, Array.toList_setIfInBounds]
theorem swpL0 (d : Array Int) (i j : Nat) : (d.toList.set (0 + i) d[j]!).set (0 + j) d[i]! = (swp d i j).toList := by rw [Nat.zero_add, Nat.zero_add, swpL]
theorem size_swp (d : Array Int) (i j : Nat) : (swp d i j).size = d.size := by unfold swp; simp
theorem e_insInner (a : Nat) (b i : Int) : ∀ (j : Nat) (d : Array Int), j < d.size → d.size ≤ 17592186044416 →
    L_slices_insertionSortOrdered_uint64_4 ((a : Int), b, i, (j : Int), ()) (d.toList, ()) = some (((a : Int), b, i, ()), ((insInner ltInt a j d).toList, ()))
  | 0, d, h, hd => by
    rw [Le_slices_insertionSortOrdered_uint64_4]
    unfold ltree_slices_insertionSortOrdered_uint64_4
    rw [cd_f (by omega)]
    rfl
  | j + 1, d, h, hd => by
    rw [Le_slices_insertionSortOrdered_uint64_4]
    unfold ltree_slices_insertionSortOrdered_uint64_4
    have e1 : IntKind.i64.wrap (((j + 1 : Nat) : Int) - 1) = (j : Int) := by rw [i64id] <;> omega
    unfold insInner
    by_cases ha : j + 1 > a
    · simp (disch := omega) only [e1, Int.toNat_natCast, getL0, swpL0, List.length_set, Array.length_toList, cd_t, e_less, Option.bind_some]
      cases hc : ltInt d[j + 1]! d[j]! with
      | false => rw [decide_eq_true ha]; rfl
      | true =>
        rw [decide_eq_true ha]
        simp only [cond_true, Bool.and_self, if_true]
        exact e_insInner a b i j _ (by rw [size_swp]; omega) (by rw [size_swp]; exact hd)
    · rw [cd_f (by omega), decide_eq_false ha]
      rfl
theorem size_insInner (a : Nat) : ∀ (j : Nat) (d : Array Int), (insInner ltInt a j d).size = d.size
  | 0, d => rfl
  | j + 1, d => by
    unfold insInner
    split
    · rw [size_insInner, size_swp]
    · rfl
theorem e_insOuter (a b : Nat) : ∀ (r i : Nat) (d : Array Int), r = b - i → b ≤ d.size → d.size ≤ 17592186044416 →
    L_slices_insertionSortOrdered_uint64_1 ((a : Int), (b : Int), (i : Int), ()) (d.toList, ()) = some ((), ((insOuter ltInt a b i d).toList, ()))
  | 0, i, d, hr, hb, hd => by
    rw [Le_slices_insertionSortOrdered_uint64_1]
    unfold ltree_slices_insertionSortOrdered_uint64_1
    rw [cd_f (by omega), insOuter, if_neg (by omega)]
  | r + 1, i, d, hr, hb, hd => by
    rw [Le_slices_insertionSortOrdered_uint64_1]
    unfold ltree_slices_insertionSortOrdered_uint64_1
    rw [cd_t (by omega), e_insInner a b i i d (by omega) hd, insOuter, if_pos (by omega)]
    simp only [Option.bind_some]
    rw [show IntKind.i64.wrap ((i : Int) + 1) = ((i + 1 : Nat) : Int) by rw [i64id] <;> omega]
    exact e_insOuter a b r (i + 1) _ (by omega) (by rw [size_insInner]; exact hb) (by rw [size_insInner]; exact hd)
theorem e_insertionSort {a b : Nat} {d : Array Int} (hab : a ≤ b) (hb : b ≤ d.size) (hd : d.size ≤ 17592186044416) :
    F_slices_insertionSortOrdered_uint64 ((a : Int), (b : Int), ()) (d.toList, ()) = some ((), ((insertionSort ltInt d a b).toList, ())) := by
  rw [Fe_slices_insertionSortOrdered_uint64]
  unfold tree_slices_insertionSortOrdered_uint64
  rw [show IntKind.i64.wrap ((a : Int) + 1) = ((a + 1 : Nat) : Int) by rw [i64id] <;> omega, e_insOuter a b _ _ _ rfl hb hd]
  rfl
theorem size_siftDown (hi first : Nat) : ∀ (r root : Nat) (d : Array Int), hi - root ≤ r → (siftDown ltInt hi first root d).size = d.size := by
  intro r
  induction r with
  | zero => intro root d h; rw [siftDown, dif_pos (by omega)]
  | succ r ih =>
    intro root d h
    rw [siftDown]
    split
    · rfl
    · split
      · split
        · rfl
        · split
          · rw [ih _ _ (by omega), size_swp]
          · rfl
      · split
        · rfl
        · rw [ih _ _ (by omega), size_swp]
theorem e_siftDown_loop (hi first : Nat) : ∀ (r root : Nat) (d : Array Int), hi - root ≤ r → first + hi ≤ d.size → d.size ≤ 17592186044416 → root ≤ hi →
    ∃ o, L_slices_siftDownOrdered_uint64_1 ((hi : Int), (first : Int), (root : Int), ()) (d.toList, ()) = some o ∧ Sum.elim (fun u => u.2.1) (fun u => u.2.1) o = (siftDown ltInt hi first root d).toList := by
  intro r
  induction r with
  | zero =>
    intro root d h hb hd hr
    rw [Le_slices_siftDownOrdered_uint64_1]
    unfold ltree_slices_siftDownOrdered_uint64_1
    rw [show IntKind.i64.wrap (2 * (root : Int)) = ((2 * root : Nat) : Int) by rw [i64id] <;> omega, show IntKind.i64.wrap (((2 * root : Nat) : Int) + 1) = ((2 * root + 1 : Nat) : Int) by rw [i64id] <;> omega]
    rw [cd_t (by omega), siftDown, dif_pos (by omega)]
    exact ⟨_, rfl, rfl⟩
  | succ r ih =>
    intro root d h hb hd hr
    rw [Le_slices_siftDownOrdered_uint64_1]
    unfold ltree_slices_siftDownOrdered_uint64_1
    rw [show IntKind.i64.wrap (2 * (root : Int)) = ((2 * root : Nat) : Int) by rw [i64id] <;> omega, show IntKind.i64.wrap (((2 * root : Nat) : Int) + 1) = ((2 * root + 1 : Nat) : Int) by rw [i64id] <;> omega]
    rw [siftDown]
    by_cases h1 : 2 * root + 1 ≥ hi
    · rw [cd_t (by omega), dif_pos h1]
      exact ⟨_, rfl, rfl⟩
    · rw [cd_f (by omega), dif_neg h1]
      have e2 : IntKind.i64.wrap (((2 * root + 1 : Nat) : Int) + 1) = ((2 * root + 2 : Nat) : Int) := by rw [i64id] <;> omega
      have e3 : IntKind.i64.wrap ((first : Int) + ((2 * root + 1 : Nat) : Int)) = ((first + (2 * root + 1) : Nat) : Int) := by rw [i64id] <;> omega
      have e5 : IntKind.i64.wrap ((first : Int) + (root : Int)) = ((first + root : Nat) : Int) := by rw [i64id] <;> omega
      rw [e2]
      by_cases h2 : 2 * root + 1 + 1 < hi
      · have e4 : IntKind.i64.wrap (((first + (2 * root + 1) : Nat) : Int) + 1) = ((first + (2 * root + 1) + 1 : Nat) : Int) := by rw [i64id] <;> omega
        have e6 : IntKind.i64.wrap ((first : Int) + ((2 * root + 2 : Nat) : Int)) = ((first + (2 * root + 2) : Nat) : Int) := by rw [i64id] <;> omega
        rw [cd_t (by omega), decide_eq_true h2]
        simp (disch := omega) only [e3, e4, e5, e6, Int.toNat_natCast, getL0, swpL0, List.length_set, Array.length_toList, cd_t, e_less, Option.bind_some, Bool.true_and]
        cases hc : ltInt d[first + (2 * root + 1)]! d[first + (2 * root + 1) + 1]! with
        | true =>
          simp only [cond_true, if_true]
          cases hc2 : ltInt d[first + root]! d[first + (2 * root + 2)]! with
          | false => exact ⟨_, rfl, rfl⟩
          | true =>
            simp only [Bool.not_true, cond_false, Bool.false_eq_true, if_false]
            rw [dif_pos (by omega)]
            exact ih _ _ (by omega) (by rw [size_swp]; omega) (by rw [size_swp]; exact hd) (by omega)
        | false =>
          simp only [cond_false, Bool.false_eq_true, if_false]
          cases hc2 : ltInt d[first + root]! d[first + (2 * root + 1)]! with
          | false => exact ⟨_, rfl, rfl⟩
          | true =>
            simp only [Bool.not_true, cond_false, Bool.false_eq_true, if_false]
            exact ih _ _ (by omega) (by rw [size_swp]; omega) (by rw [size_swp]; exact hd) (by omega)
      · rw [cd_f (by omega), decide_eq_false h2]
        simp (disch := omega) only [e3, e5, Int.toNat_natCast, getL0, swpL0, List.length_set, Array.length_toList, cd_t, e_less, Option.bind_some, Bool.false_and, Bool.false_eq_true, if_false]
        cases hc2 : ltInt d[first + root]! d[first + (2 * root + 1)]! with
        | false => exact ⟨_, rfl, rfl⟩
        | true =>
          simp only [Bool.not_true, cond_false, Bool.false_eq_true, if_false]
          exact ih _ _ (by omega) (by rw [size_swp]; omega) (by rw [size_swp]; exact hd) (by omega)
theorem e_siftDown {hi first root : Nat} {d : Array Int} (hb : first + hi ≤ d.size) (hd : d.size ≤ 17592186044416) (hr : root ≤ hi) :
    F_slices_siftDownOrdered_uint64 ((root : Int), (hi : Int), (first : Int), ()) (d.toList, ()) = some ((), ((siftDown ltInt hi first root d).toList, ())) := by
  rw [Fe_slices_siftDownOrdered_uint64]
  unfold tree_slices_siftDownOrdered_uint64
  obtain ⟨o, ho, he⟩ := e_siftDown_loop hi first _ root d (Nat.le_refl _) hb hd hr
  rw [ho]
  rcases o with o | o
  · have he : o.2.1 = _ := he
    simp only [Option.bind_some, Sum.elim_inl, he]
  · have he : o.2.1 = _ := he
    simp only [Option.bind_some, Sum.elim_inr, he]
end Go.Proofs.Ytgakbdikappdbaa.S2
