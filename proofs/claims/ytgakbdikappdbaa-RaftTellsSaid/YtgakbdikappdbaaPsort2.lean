/- The library's sort, at uint64: heaps, turned ranges, pivots. -/
import Derived.Test.YtgakbdikappdbaaPsort1
set_option linter.unusedVariables false
set_option linter.unusedSimpArgs false
namespace Go.Proofs.Ytgakbdikappdbaa.S2
open Go Go.Sort
theorem size_siftDown' (hi first root : Nat) (d : Array Int) : (siftDown ltInt hi first root d).size = d.size := size_siftDown hi first _ root d (Nat.le_refl _)
theorem size_heapBuild (hi first : Nat) : ∀ (k : Nat) (d : Array Int), (heapBuild ltInt hi first k d).size = d.size
  | 0, d => rfl
  | k + 1, d => by rw [heapBuild, size_heapBuild, size_siftDown']
theorem e_heapBuild (first hi : Nat) (lo : Int) : ∀ (k : Nat) (d : Array Int), k ≤ hi + 1 → first + hi ≤ d.size → d.size ≤ 17592186044416 →
    L_slices_heapSortOrdered_uint64_4 ((first : Int), lo, (hi : Int), (k : Int) - 1, ()) (d.toList, ()) = some (((first : Int), lo, (hi : Int), ()), ((heapBuild ltInt hi first k d).toList, ()))
  | 0, d, hk, hb, hd => by
    rw [Le_slices_heapSortOrdered_uint64_4]
    unfold ltree_slices_heapSortOrdered_uint64_4
    rw [cd_f (by omega)]
    rfl
  | k + 1, d, hk, hb, hd => by
    rw [Le_slices_heapSortOrdered_uint64_4]
    unfold ltree_slices_heapSortOrdered_uint64_4
    rw [cd_t (by omega), show ((k + 1 : Nat) : Int) - 1 = (k : Int) by omega, e_siftDown hb hd (by omega)]
    simp only [Option.bind_some]
    rw [show IntKind.i64.wrap ((k : Int) - 1) = (k : Int) - 1 by rw [i64id] <;> omega]
    exact e_heapBuild first hi lo k _ (by omega) (by rw [size_siftDown']; exact hb) (by rw [size_siftDown']; exact hd)
theorem e_heapPop (first : Nat) : ∀ (k : Nat) (d : Array Int), first + k ≤ d.size → d.size ≤ 17592186044416 →
    L_slices_heapSortOrdered_uint64_8 ((first : Int), 0, (k : Int) - 1, ()) (d.toList, ()) = some ((), ((heapPop ltInt first k d).toList, ()))
  | 0, d, hb, hd => by
    rw [Le_slices_heapSortOrdered_uint64_8]
    unfold ltree_slices_heapSortOrdered_uint64_8
    rw [cd_f (by omega)]
    rfl
  | k + 1, d, hb, hd => by
    rw [Le_slices_heapSortOrdered_uint64_8]
    unfold ltree_slices_heapSortOrdered_uint64_8
    have e1 : IntKind.i64.wrap ((first : Int) + (k : Int)) = ((first + k : Nat) : Int) := by rw [i64id] <;> omega
    rw [cd_t (by omega), show ((k + 1 : Nat) : Int) - 1 = (k : Int) by omega]
    simp (disch := omega) only [e1, Int.toNat_natCast, getL0, swpL0, List.length_set, Array.length_toList, cd_t]
    rw [show (0 : Int) = ((0 : Nat) : Int) from rfl, e_siftDown (by rw [size_swp]; omega) (by rw [size_swp]; exact hd) (Nat.zero_le _)]
    simp only [Option.bind_some]
    rw [show IntKind.i64.wrap ((k : Int) - 1) = (k : Int) - 1 by rw [i64id] <;> omega]
    exact e_heapPop first k _ (by rw [size_siftDown', size_swp]; omega) (by rw [size_siftDown', size_swp]; exact hd)
theorem e_heapSort {a b : Nat} {d : Array Int} (hab : a < b) (hb : b ≤ d.size) (hd : d.size ≤ 17592186044416) :
    F_slices_heapSortOrdered_uint64 ((a : Int), (b : Int), ()) (d.toList, ()) = some ((), ((heapSort ltInt d a b).toList, ())) := by
  rw [Fe_slices_heapSortOrdered_uint64]
  unfold tree_slices_heapSortOrdered_uint64
  have e1 : IntKind.i64.wrap ((b : Int) - (a : Int)) = ((b - a : Nat) : Int) := by rw [i64id] <;> omega
  have e2 : IntKind.i64.wrap (((b - a : Nat) : Int) - 1) = ((b - a - 1 : Nat) : Int) := by rw [i64id] <;> omega
  have e3 : ((b - a - 1 : Nat) : Int).tdiv 2 = (((b - a - 1) / 2 : Nat) : Int) := by rw [Int.tdiv_eq_ediv_of_nonneg (by omega)]; omega
  have e4 : IntKind.i64.wrap (((b - a - 1) / 2 : Nat) : Int) = (((b - a - 1) / 2 + 1 : Nat) : Int) - 1 := by rw [i64id] <;> omega
  rw [e1, e2, e3, e4, e_heapBuild a (b - a) 0 _ d (by omega) (by omega) hd]
  simp only [Option.bind_some]
  rw [show IntKind.i64.wrap (((b - a : Nat) : Int) - 1) = ((b - a : Nat) : Int) - 1 by rw [i64id] <;> omega, e_heapPop a (b - a) _ (by rw [size_heapBuild]; omega) (by rw [size_heapBuild]; exact hd)]
  rfl
theorem e_reverseLoop : ∀ (r i j : Nat) (d : Array Int), j - i ≤ r → j < d.size → d.size ≤ 17592186044416 →
    L_slices_reverseRangeOrdered_uint64_2 ((i : Int), (j : Int), ()) (d.toList, ()) = some ((), ((reverseLoop i j d).toList, ())) := by
  intro r
  induction r with
  | zero =>
    intro i j d h hj hd
    rw [Le_slices_reverseRangeOrdered_uint64_2]
    unfold ltree_slices_reverseRangeOrdered_uint64_2
    rw [cd_f (by omega), reverseLoop, if_neg (by omega)]
  | succ r ih =>
    intro i j d h hj hd
    rw [Le_slices_reverseRangeOrdered_uint64_2]
    unfold ltree_slices_reverseRangeOrdered_uint64_2
    rw [reverseLoop]
    by_cases hij : i < j
    · rw [if_pos hij, show IntKind.i64.wrap ((i : Int) + 1) = ((i + 1 : Nat) : Int) by rw [i64id] <;> omega, show IntKind.i64.wrap ((j : Int) - 1) = ((j - 1 : Nat) : Int) by rw [i64id] <;> omega]
      simp (disch := omega) only [Int.toNat_natCast, getL0, swpL0, List.length_set, Array.length_toList, cd_t]
      exact ih _ _ _ (by omega) (by rw [size_swp]; omega) (by rw [size_swp]; exact hd)
    · rw [cd_f (by omega), if_neg hij]
theorem e_reverseRange {a b : Nat} {d : Array Int} (hab : a < b) (hb : b ≤ d.size) (hd : d.size ≤ 17592186044416) :
    F_slices_reverseRangeOrdered_uint64 ((a : Int), (b : Int), ()) (d.toList, ()) = some ((), ((reverseRange d a b).toList, ())) := by
  rw [Fe_slices_reverseRangeOrdered_uint64]
  unfold tree_slices_reverseRangeOrdered_uint64
  rw [show IntKind.i64.wrap ((b : Int) - 1) = ((b - 1 : Nat) : Int) by rw [i64id] <;> omega, e_reverseLoop _ a (b - 1) d (Nat.le_refl _) (by omega) hd]
  rfl
theorem e_order2 {a b s : Nat} {d : Array Int} (ha : a < d.size) (hb : b < d.size) (hs : s < 1000) :
    F_slices_order2Ordered_uint64 ((a : Int), (b : Int), ()) (d.toList, ((s : Int), ()), ()) = some ((((order2 ltInt d a b s).1 : Int), ((order2 ltInt d a b s).2.1 : Int), ()), (d.toList, (((order2 ltInt d a b s).2.2 : Int), ()), ())) := by
  rw [Fe_slices_order2Ordered_uint64]
  unfold tree_slices_order2Ordered_uint64 order2
  simp (disch := omega) only [Int.toNat_natCast, getL0, Array.length_toList, cd_t, e_less, Option.bind_some]
  cases ltInt d[b]! d[a]! with
  | false => rfl
  | true => simp only [cond_true, if_true]; rw [show IntKind.i64.wrap ((s : Int) + 1) = ((s + 1 : Nat) : Int) by rw [i64id] <;> omega]
theorem order2_lt {a b s n : Nat} {d : Array Int} (ha : a < n) (hb : b < n) : (order2 ltInt d a b s).1 < n ∧ (order2 ltInt d a b s).2.1 < n ∧ (order2 ltInt d a b s).2.2 ≤ s + 1 := by
  unfold order2
  split
  · exact ⟨hb, ha, Nat.le_refl _⟩
  · exact ⟨ha, hb, Nat.le_succ _⟩
theorem median_lt {a b c s n : Nat} {d : Array Int} (ha : a < n) (hb : b < n) (hc : c < n) : (median ltInt d a b c s).1 < n ∧ (median ltInt d a b c s).2 ≤ s + 3 := by
  unfold median
  have h1 := order2_lt (d := d) (s := s) ha hb
  have h2 := order2_lt (d := d) (s := (order2 ltInt d a b s).2.2) h1.2.1 hc
  have h3 := order2_lt (d := d) (s := (order2 ltInt d (order2 ltInt d a b s).2.1 c (order2 ltInt d a b s).2.2).2.2) h1.1 h2.1
  exact ⟨h3.2.1, by have := h3.2.2; have := h2.2.2; have := h1.2.2; dsimp only; omega⟩
theorem e_median {a b c s : Nat} {d : Array Int} (ha : a < d.size) (hb : b < d.size) (hc : c < d.size) (hs : s < 900) :
    F_slices_medianOrdered_uint64 ((a : Int), (b : Int), (c : Int), ()) (d.toList, ((s : Int), ()), ()) = some (((median ltInt d a b c s).1 : Int), (d.toList, (((median ltInt d a b c s).2 : Int), ()), ())) := by
  rw [Fe_slices_medianOrdered_uint64]
  unfold tree_slices_medianOrdered_uint64 median
  have h1 := order2_lt (d := d) (s := s) ha hb
  have h2 := order2_lt (d := d) (s := (order2 ltInt d a b s).2.2) h1.2.1 hc
  rw [e_order2 ha hb (by omega)]
  simp only [Option.bind_some]
  rw [e_order2 h1.2.1 hc (by omega)]
  simp only [Option.bind_some]
  rw [e_order2 h1.1 h2.1 (by omega)]
  rfl
theorem e_medianAdjacent {a s : Nat} {d : Array Int} (ha : 1 ≤ a) (hb : a + 1 < d.size) (hd : d.size ≤ 17592186044416) (hs : s < 900) :
    F_slices_medianAdjacentOrdered_uint64 ((a : Int), ()) (d.toList, ((s : Int), ()), ()) = some (((medianAdjacent ltInt d a s).1 : Int), (d.toList, (((medianAdjacent ltInt d a s).2 : Int), ()), ())) := by
  rw [Fe_slices_medianAdjacentOrdered_uint64]
  unfold tree_slices_medianAdjacentOrdered_uint64 medianAdjacent
  rw [show IntKind.i64.wrap ((a : Int) - 1) = ((a - 1 : Nat) : Int) by rw [i64id] <;> omega, show IntKind.i64.wrap ((a : Int) + 1) = ((a + 1 : Nat) : Int) by rw [i64id] <;> omega,
    e_median (by omega) (by omega) hb hs]
  rfl
def hintI : Hint → Int
  | .unknown => 0
  | .increasing => 1
  | .decreasing => 2
theorem hint_of (s : Nat) {α : Type} (K : Int → α) : cond ((s : Int) == 0) (K 1) (cond ((s : Int) == 12) (K 2) (K 0)) = K (hintI (if s = 0 then .increasing else if s = 12 then .decreasing else .unknown)) := by
  by_cases h0 : s = 0
  · subst h0; rfl
  · rw [if_neg h0, c_f (by simp; omega)]
    by_cases h1 : s = 12
    · subst h1; rfl
    · rw [if_neg h1, c_f (by simp; omega)]
      rfl
theorem e_choosePivot {a b : Nat} {d : Array Int} (hab : a < b) (hb : b ≤ d.size) (hd : d.size ≤ 17592186044416) :
    F_slices_choosePivotOrdered_uint64 ((a : Int), (b : Int), ()) (d.toList, ()) = some ((((choosePivot ltInt d a b).1 : Int), hintI (choosePivot ltInt d a b).2, ()), (d.toList, ())) := by
  rw [Fe_slices_choosePivotOrdered_uint64]
  unfold tree_slices_choosePivotOrdered_uint64
  have e1 : IntKind.i64.wrap ((b : Int) - (a : Int)) = ((b - a : Nat) : Int) := by rw [i64id] <;> omega
  have e2 : ((b - a : Nat) : Int).tdiv 4 = (((b - a) / 4 : Nat) : Int) := by rw [Int.tdiv_eq_ediv_of_nonneg (by omega)]; omega
  have e3 : IntKind.i64.wrap (((b - a) / 4 : Nat) : Int) = (((b - a) / 4 : Nat) : Int) := by rw [i64id] <;> omega
  have f1 : IntKind.i64.wrap ((((b - a) / 4 : Nat) : Int) * 1) = (((b - a) / 4 * 1 : Nat) : Int) := by rw [i64id] <;> omega
  have f2 : IntKind.i64.wrap ((((b - a) / 4 : Nat) : Int) * 2) = (((b - a) / 4 * 2 : Nat) : Int) := by rw [i64id] <;> omega
  have f3 : IntKind.i64.wrap ((((b - a) / 4 : Nat) : Int) * 3) = (((b - a) / 4 * 3 : Nat) : Int) := by rw [i64id] <;> omega
  have g1 : IntKind.i64.wrap ((a : Int) + (((b - a) / 4 * 1 : Nat) : Int)) = ((a + (b - a) / 4 * 1 : Nat) : Int) := by rw [i64id] <;> omega
  have g2 : IntKind.i64.wrap ((a : Int) + (((b - a) / 4 * 2 : Nat) : Int)) = ((a + (b - a) / 4 * 2 : Nat) : Int) := by rw [i64id] <;> omega
  have g3 : IntKind.i64.wrap ((a : Int) + (((b - a) / 4 * 3 : Nat) : Int)) = ((a + (b - a) / 4 * 3 : Nat) : Int) := by rw [i64id] <;> omega
  simp only [e1, e2, e3, f1, f2, f3, g1, g2, g3]
  unfold choosePivot
  dsimp only
  by_cases h8 : b - a ≥ 8
  · rw [cd_t (by omega), if_pos h8]
    by_cases h50 : b - a ≥ 50
    · rw [cd_t (by omega), if_pos h50]
      have m1 := median_lt (n := d.size) (d := d) (s := 0) (a := a + (b - a) / 4 * 1 - 1) (b := a + (b - a) / 4 * 1) (c := a + (b - a) / 4 * 1 + 1) (by omega) (by omega) (by omega)
      rw [show (0 : Int) = ((0 : Nat) : Int) from rfl, e_medianAdjacent (by omega) (by omega) hd (by omega)]
      simp only [Option.bind_some]
      have m2 := median_lt (n := d.size) (d := d) (s := (medianAdjacent ltInt d (a + (b - a) / 4 * 1) 0).2) (a := a + (b - a) / 4 * 2 - 1) (b := a + (b - a) / 4 * 2) (c := a + (b - a) / 4 * 2 + 1) (by omega) (by omega) (by omega)
      have m1' : (medianAdjacent ltInt d (a + (b - a) / 4 * 1) 0).1 < d.size ∧ (medianAdjacent ltInt d (a + (b - a) / 4 * 1) 0).2 ≤ 3 := m1
      rw [e_medianAdjacent (by omega) (by omega) hd (by omega)]
      simp only [Option.bind_some]
      have m2' : (medianAdjacent ltInt d (a + (b - a) / 4 * 2) (medianAdjacent ltInt d (a + (b - a) / 4 * 1) 0).2).1 < d.size ∧ (medianAdjacent ltInt d (a + (b - a) / 4 * 2) (medianAdjacent ltInt d (a + (b - a) / 4 * 1) 0).2).2 ≤ (medianAdjacent ltInt d (a + (b - a) / 4 * 1) 0).2 + 3 := m2
      have m3 := median_lt (n := d.size) (d := d) (s := (medianAdjacent ltInt d (a + (b - a) / 4 * 2) (medianAdjacent ltInt d (a + (b - a) / 4 * 1) 0).2).2) (a := a + (b - a) / 4 * 3 - 1) (b := a + (b - a) / 4 * 3) (c := a + (b - a) / 4 * 3 + 1) (by omega) (by omega) (by omega)
      have m3' : (medianAdjacent ltInt d (a + (b - a) / 4 * 3) (medianAdjacent ltInt d (a + (b - a) / 4 * 2) (medianAdjacent ltInt d (a + (b - a) / 4 * 1) 0).2).2).1 < d.size ∧ (medianAdjacent ltInt d (a + (b - a) / 4 * 3) (medianAdjacent ltInt d (a + (b - a) / 4 * 2) (medianAdjacent ltInt d (a + (b - a) / 4 * 1) 0).2).2).2 ≤ (medianAdjacent ltInt d (a + (b - a) / 4 * 2) (medianAdjacent ltInt d (a + (b - a) / 4 * 1) 0).2).2 + 3 := m3
      rw [e_medianAdjacent (by omega) (by omega) hd (by omega)]
      simp only [Option.bind_some]
      rw [e_median m1'.1 m2'.1 m3'.1 (by omega)]
      simp only [Option.bind_some]
      exact hint_of _ (fun h => some (((_ : Int), h, ()), (d.toList, ())))
    · rw [cd_f (by omega), if_neg h50, show (0 : Int) = ((0 : Nat) : Int) from rfl, e_median (by omega) (by omega) (by omega) (by omega)]
      simp only [Option.bind_some]
      exact hint_of _ (fun h => some (((_ : Int), h, ()), (d.toList, ())))
  · rw [cd_f (by omega), if_neg h8]
    rfl
end Go.Proofs.Ytgakbdikappdbaa.S2
