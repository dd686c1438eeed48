/- The library's sort, at uint64: slices.Sort. -/
import Derived.Test.YtgakbdikappdbaaPsort6
set_option linter.unusedVariables false
set_option linter.unusedSimpArgs false
namespace Go.Proofs.Ytgakbdikappdbaa.S2
open Go Go.Sort
theorem Fe_pdq (k : Nat) {a b limit : Nat} {d : Array Int} : Frec_slices_pdqsortOrdered_uint64 (k + 1) ((a : Int), (b : Int), (limit : Int), ()) (d.toList, ()) =
    (L_slices_pdqsortOrdered_uint64_2 (Frec_slices_pdqsortOrdered_uint64 k) ((a : Int), (b : Int), (limit : Int), true, true, ()) (d.toList, ())).bind fun r => some ((), (r.2.1, ())) := by
  rw [Fe_slices_pdqsortOrdered_uint64]
  rfl
theorem sorts_one : Sorts (Frec_slices_pdqsortOrdered_uint64 1) 12 := by
  intro a b limit d hab hb hd hl hB hm
  rw [Fe_pdq, Le_slices_pdqsortOrdered_uint64_2]
  unfold ltree_slices_pdqsortOrdered_uint64_2
  rw [show IntKind.i64.wrap ((b : Int) - (a : Int)) = ((b - a : Nat) : Int) by rw [i64id] <;> omega, cd_t (by omega), e_insertionSort hab hb (by omega)]
  exact ⟨_, rfl, insertionSort_holds swo_ltInt d a b hab hb⟩
theorem sorts_succ {k m : Nat} (h : Sorts (Frec_slices_pdqsortOrdered_uint64 k) m) : Sorts (Frec_slices_pdqsortOrdered_uint64 (k + 1)) (2 * m + 1) := by
  intro a b limit d hab hb hd hl hB hm
  obtain ⟨d', h1, h2⟩ := loop_ok h _ a b limit true true d (Nat.le_refl _) hab hb hd hl hB (.inr hm)
  rw [Fe_pdq, h1]
  exact ⟨d', rfl, h2⟩
theorem Sorts.le {F : FP} {m n : Nat} (h : Sorts F m) (hn : n ≤ m) : Sorts F n := fun a b limit d h1 h2 h3 h4 h5 h6 => h a b limit d h1 h2 h3 h4 h5 (by omega)
theorem sorts_many : ∀ k, Sorts (Frec_slices_pdqsortOrdered_uint64 (k + 6)) 255
  | 0 => (sorts_succ (sorts_succ (sorts_succ (sorts_succ (sorts_succ sorts_one))))).le (by decide)
  | k + 1 => (sorts_succ (sorts_many k)).le (by decide)
def sorted (xs : List Int) : List Int := xs.mergeSort (fun x y => decide (x ≤ y))
theorem sorted_length (xs : List Int) : (sorted xs).length = xs.length := List.length_mergeSort _
theorem sorted_perm (xs : List Int) : (sorted xs).Perm xs := List.mergeSort_perm _ _
theorem mem_sorted {xs : List Int} {x : Int} : x ∈ sorted xs ↔ x ∈ xs := (sorted_perm xs).mem_iff
theorem sorted_pairwise (xs : List Int) : (sorted xs).Pairwise (fun x y => x ≤ y) := by
  have h := List.pairwise_mergeSort (le := fun x y : Int => decide (x ≤ y)) (by intro a b c; simp only [decide_eq_true_eq]; omega) (by intro a b; simp only [Bool.or_eq_true, decide_eq_true_eq]; omega) xs
  exact h.imp fun {a b} h => by simpa using h
theorem e_Sort {xs : List Int} (h : xs.length ≤ 255) : F_slices_Sort_uint64 () (xs, ()) = some ((), (sorted xs, ())) := by
  rw [Fe_slices_Sort_uint64]
  unfold tree_slices_Sort_uint64
  rw [show IntKind.u64.wrap (xs.length : Int) = (xs.length : Int) by rw [u64id] <;> omega, e_Len (by omega)]
  simp only [Option.bind_some]
  obtain ⟨d', h1, h2, h3⟩ := sorts_many 64 0 xs.length (bitsLen xs.length) xs.toArray (Nat.zero_le _) (by simp) (by simpa using h) (by have := bitsLen_le (n := xs.length) (by omega); omega) (Or.inl rfl) (by omega)
  have h1 : F_slices_pdqsortOrdered_uint64 (0, (xs.length : Int), (bitsLen xs.length : Int), ()) (xs, ()) = some ((), (d'.toList, ())) := h1
  rw [h1]
  have hu := sorted_unique_holds (lt := ltInt) swo_ltInt (fun x y h1 h2 => by simp only [ltInt, decide_eq_false_iff_not] at h1 h2; omega) xs.toArray d' (by simpa using h2) (by simpa using h3)
  have e : (fun x y : Int => !ltInt y x) = fun x y => decide (x ≤ y) := by
    funext x y
    unfold ltInt
    by_cases h : x ≤ y
    · rw [decide_eq_true h, decide_eq_false (by omega)]; rfl
    · rw [decide_eq_false h, decide_eq_true (by omega)]; rfl
  rw [e] at hu
  simp only [Option.bind_some]
  unfold sorted
  rw [hu]
end Go.Proofs.Ytgakbdikappdbaa.S2
