/- The library's sort, at uint64: partitions. -/
import Derived.Test.YtgakbdikappdbaaPsort3
set_option linter.unusedVariables false
set_option linter.unusedSimpArgs false
namespace Go.Proofs.Ytgakbdikappdbaa.S2
open Go Go.Sort
theorem scanUp_up (p : Int → Bool) (d : Array Int) (j i n : Nat) (hi : i ≤ n) (hj : j < n) : scanUp p d j i ≤ n := by
  by_cases h : i ≤ j + 1
  · have := (scanUp_spec p d j _ i rfl).2.1 h; omega
  · rw [scanUp, if_neg (by simp; omega)]; exact hi
theorem e_up_partitionOrdered_3 (a j : Nat) (d : Array Int) (ha : a < d.size) (hj : j < d.size) (hd : d.size ≤ 17592186044416) : ∀ (r i : Nat), j + 1 - i ≤ r → i ≤ d.size →
    L_slices_partitionOrdered_uint64_3 ((a : Int), (i : Int), (j : Int), ()) (d.toList, ()) = some (((a : Int), ((scanUp (fun x => ltInt x d[a]!) d j i : Nat) : Int), (j : Int), ()), (d.toList, ())) := by
  intro r
  induction r with
  | zero =>
    intro i h hi
    rw [Le_slices_partitionOrdered_uint64_3]
    unfold ltree_slices_partitionOrdered_uint64_3
    rw [cd_f (by omega), scanUp, if_neg (by simp; omega)]
  | succ r ih =>
    intro i h hi
    rw [Le_slices_partitionOrdered_uint64_3]
    unfold ltree_slices_partitionOrdered_uint64_3
    rw [scanUp]
    by_cases hij : i ≤ j
    · rw [decide_eq_true hij, Bool.true_and]
      simp (disch := omega) only [Int.toNat_natCast, getL0, Array.length_toList, cd_t, e_less, Option.bind_some]
      rw [show IntKind.i64.wrap ((i : Int) + 1) = ((i + 1 : Nat) : Int) by rw [i64id] <;> omega, ih (i + 1) (by omega) (by omega)]
      cases ltInt d[i]! d[a]! with
      | false => rfl
      | true => rfl
    · rw [cd_f (by omega), decide_eq_false hij, Bool.false_and]
      rfl
theorem e_up_partitionOrdered_13 (a j : Nat) (d : Array Int) (ha : a < d.size) (hj : j < d.size) (hd : d.size ≤ 17592186044416) : ∀ (r i : Nat), j + 1 - i ≤ r → i ≤ d.size →
    L_slices_partitionOrdered_uint64_13 ((a : Int), (i : Int), (j : Int), ()) (d.toList, ()) = some (((a : Int), ((scanUp (fun x => ltInt x d[a]!) d j i : Nat) : Int), (j : Int), ()), (d.toList, ())) := by
  intro r
  induction r with
  | zero =>
    intro i h hi
    rw [Le_slices_partitionOrdered_uint64_13]
    unfold ltree_slices_partitionOrdered_uint64_13
    rw [cd_f (by omega), scanUp, if_neg (by simp; omega)]
  | succ r ih =>
    intro i h hi
    rw [Le_slices_partitionOrdered_uint64_13]
    unfold ltree_slices_partitionOrdered_uint64_13
    rw [scanUp]
    by_cases hij : i ≤ j
    · rw [decide_eq_true hij, Bool.true_and]
      simp (disch := omega) only [Int.toNat_natCast, getL0, Array.length_toList, cd_t, e_less, Option.bind_some]
      rw [show IntKind.i64.wrap ((i : Int) + 1) = ((i + 1 : Nat) : Int) by rw [i64id] <;> omega, ih (i + 1) (by omega) (by omega)]
      cases ltInt d[i]! d[a]! with
      | false => rfl
      | true => rfl
    · rw [cd_f (by omega), decide_eq_false hij, Bool.false_and]
      rfl
theorem e_down_partitionOrdered_5 (a i : Nat) (d : Array Int) (ha : a < d.size) (hi : 1 ≤ i) (hd : d.size ≤ 17592186044416) : ∀ (j : Nat), j < d.size →
    L_slices_partitionOrdered_uint64_5 ((a : Int), (i : Int), (j : Int), ()) (d.toList, ()) = some (((a : Int), (i : Int), ((scanDown (fun x => !ltInt x d[a]!) d i j : Nat) : Int), ()), (d.toList, ()))
  | 0, hj => by
    rw [Le_slices_partitionOrdered_uint64_5]
    unfold ltree_slices_partitionOrdered_uint64_5
    rw [cd_f (by omega)]
    rfl
  | j + 1, hj => by
    rw [Le_slices_partitionOrdered_uint64_5]
    unfold ltree_slices_partitionOrdered_uint64_5
    rw [scanDown]
    by_cases hij : i ≤ j + 1
    · rw [decide_eq_true hij, Bool.true_and]
      simp (disch := omega) only [Int.toNat_natCast, getL0, Array.length_toList, cd_t, e_less, Option.bind_some]
      rw [show IntKind.i64.wrap (((j + 1 : Nat) : Int) - 1) = (j : Int) by rw [i64id] <;> omega, e_down_partitionOrdered_5 a i d ha hi hd j (by omega)]
      cases ltInt d[j + 1]! d[a]! with
      | false => rfl
      | true => rfl
    · rw [cd_f (by omega), decide_eq_false hij, Bool.false_and]
      rfl
theorem e_down_partitionOrdered_15 (a i : Nat) (d : Array Int) (ha : a < d.size) (hi : 1 ≤ i) (hd : d.size ≤ 17592186044416) : ∀ (j : Nat), j < d.size →
    L_slices_partitionOrdered_uint64_15 ((a : Int), (i : Int), (j : Int), ()) (d.toList, ()) = some (((a : Int), (i : Int), ((scanDown (fun x => !ltInt x d[a]!) d i j : Nat) : Int), ()), (d.toList, ()))
  | 0, hj => by
    rw [Le_slices_partitionOrdered_uint64_15]
    unfold ltree_slices_partitionOrdered_uint64_15
    rw [cd_f (by omega)]
    rfl
  | j + 1, hj => by
    rw [Le_slices_partitionOrdered_uint64_15]
    unfold ltree_slices_partitionOrdered_uint64_15
    rw [scanDown]
    by_cases hij : i ≤ j + 1
    · rw [decide_eq_true hij, Bool.true_and]
      simp (disch := omega) only [Int.toNat_natCast, getL0, Array.length_toList, cd_t, e_less, Option.bind_some]
      rw [show IntKind.i64.wrap (((j + 1 : Nat) : Int) - 1) = (j : Int) by rw [i64id] <;> omega, e_down_partitionOrdered_15 a i d ha hi hd j (by omega)]
      cases ltInt d[j + 1]! d[a]! with
      | false => rfl
      | true => rfl
    · rw [cd_f (by omega), decide_eq_false hij, Bool.false_and]
      rfl
theorem e_up_partitionEqualOrdered_3 (a j : Nat) (d : Array Int) (ha : a < d.size) (hj : j < d.size) (hd : d.size ≤ 17592186044416) : ∀ (r i : Nat), j + 1 - i ≤ r → i ≤ d.size →
    L_slices_partitionEqualOrdered_uint64_3 ((a : Int), (i : Int), (j : Int), ()) (d.toList, ()) = some (((a : Int), ((scanUp (fun x => !ltInt d[a]! x) d j i : Nat) : Int), (j : Int), ()), (d.toList, ())) := by
  intro r
  induction r with
  | zero =>
    intro i h hi
    rw [Le_slices_partitionEqualOrdered_uint64_3]
    unfold ltree_slices_partitionEqualOrdered_uint64_3
    rw [cd_f (by omega), scanUp, if_neg (by simp; omega)]
  | succ r ih =>
    intro i h hi
    rw [Le_slices_partitionEqualOrdered_uint64_3]
    unfold ltree_slices_partitionEqualOrdered_uint64_3
    rw [scanUp]
    by_cases hij : i ≤ j
    · rw [decide_eq_true hij, Bool.true_and]
      simp (disch := omega) only [Int.toNat_natCast, getL0, Array.length_toList, cd_t, e_less, Option.bind_some]
      rw [show IntKind.i64.wrap ((i : Int) + 1) = ((i + 1 : Nat) : Int) by rw [i64id] <;> omega, ih (i + 1) (by omega) (by omega)]
      cases ltInt d[a]! d[i]! with
      | false => rfl
      | true => rfl
    · rw [cd_f (by omega), decide_eq_false hij, Bool.false_and]
      rfl
theorem e_down_partitionEqualOrdered_5 (a i : Nat) (d : Array Int) (ha : a < d.size) (hi : 1 ≤ i) (hd : d.size ≤ 17592186044416) : ∀ (j : Nat), j < d.size →
    L_slices_partitionEqualOrdered_uint64_5 ((a : Int), (i : Int), (j : Int), ()) (d.toList, ()) = some (((a : Int), (i : Int), ((scanDown (fun x => ltInt d[a]! x) d i j : Nat) : Int), ()), (d.toList, ()))
  | 0, hj => by
    rw [Le_slices_partitionEqualOrdered_uint64_5]
    unfold ltree_slices_partitionEqualOrdered_uint64_5
    rw [cd_f (by omega)]
    rfl
  | j + 1, hj => by
    rw [Le_slices_partitionEqualOrdered_uint64_5]
    unfold ltree_slices_partitionEqualOrdered_uint64_5
    rw [scanDown]
    by_cases hij : i ≤ j + 1
    · rw [decide_eq_true hij, Bool.true_and]
      simp (disch := omega) only [Int.toNat_natCast, getL0, Array.length_toList, cd_t, e_less, Option.bind_some]
      rw [show IntKind.i64.wrap (((j + 1 : Nat) : Int) - 1) = (j : Int) by rw [i64id] <;> omega, e_down_partitionEqualOrdered_5 a i d ha hi hd j (by omega)]
      cases ltInt d[a]! d[j + 1]! with
      | false => rfl
      | true => rfl
    · rw [cd_f (by omega), decide_eq_false hij, Bool.false_and]
      rfl
theorem size_partLoop : ∀ (r a i j : Nat) (d : Array Int), j + 1 - i ≤ r → (partLoop ltInt a i j d).2.size = d.size := by
  intro r
  induction r with
  | zero =>
    intro a i j d h
    rw [partLoop_eq, if_pos]
    have h1 := scanUp_ge (fun x => ltInt x d[a]!) d j i
    have h2 := scanDown_le (fun x => !ltInt x d[a]!) d (scanUp (fun x => ltInt x d[a]!) d j i) j
    omega
  | succ r ih =>
    intro a i j d h
    rw [partLoop_eq]
    split
    · rfl
    · rename_i hc
      have h1 := scanUp_ge (fun x => ltInt x d[a]!) d j i
      have h2 := scanDown_le (fun x => !ltInt x d[a]!) d (scanUp (fun x => ltInt x d[a]!) d j i) j
      rw [ih _ _ _ _ (by omega), size_swp]
theorem e_partLoop (a n : Nat) (hn : n ≤ 17592186044416) (ha : a < n) : ∀ (r i j : Nat) (d : Array Int), j + 1 - i ≤ r → d.size = n → 1 ≤ i → i ≤ n → j < n →
    L_slices_partitionOrdered_uint64_5013 ((a : Int), (i : Int), (j : Int), ()) (d.toList, ()) = some (((a : Int), (((partLoop ltInt a i j d).1 : Nat) : Int), ()), ((partLoop ltInt a i j d).2.toList, ())) := by
  intro r
  induction r with
  | zero =>
    intro i j d h hs hi hin hj
    rw [Le_slices_partitionOrdered_uint64_5013]
    unfold ltree_slices_partitionOrdered_uint64_5013
    rw [e_up_partitionOrdered_13 a j d (by omega) (by omega) (by omega) _ i (Nat.le_refl _) (by omega)]
    simp only [Option.bind_some]
    have h1 := scanUp_ge (fun x => ltInt x d[a]!) d j i
    have h2 := scanDown_le (fun x => !ltInt x d[a]!) d (scanUp (fun x => ltInt x d[a]!) d j i) j
    rw [e_down_partitionOrdered_15 a _ d (by omega) (by omega) (by omega) j (by omega)]
    simp only [Option.bind_some]
    rw [cd_t (by omega), partLoop_eq, if_pos (by omega)]
  | succ r ih =>
    intro i j d h hs hi hin hj
    rw [Le_slices_partitionOrdered_uint64_5013]
    unfold ltree_slices_partitionOrdered_uint64_5013
    rw [e_up_partitionOrdered_13 a j d (by omega) (by omega) (by omega) _ i (Nat.le_refl _) (by omega)]
    simp only [Option.bind_some]
    have h1 := scanUp_ge (fun x => ltInt x d[a]!) d j i
    have h1' := scanUp_up (fun x => ltInt x d[a]!) d j i n hin hj
    have h2 := scanDown_le (fun x => !ltInt x d[a]!) d (scanUp (fun x => ltInt x d[a]!) d j i) j
    rw [e_down_partitionOrdered_15 a _ d (by omega) (by omega) (by omega) j (by omega)]
    simp only [Option.bind_some]
    rw [partLoop_eq]
    generalize scanUp (fun x => ltInt x d[a]!) d j i = i2 at *
    generalize scanDown (fun x => !ltInt x d[a]!) d i2 j = j2 at *
    by_cases hc : i2 > j2
    · rw [cd_t (by omega), if_pos hc]
    · rw [cd_f (by omega), if_neg hc, show IntKind.i64.wrap ((i2 : Int) + 1) = ((i2 + 1 : Nat) : Int) by rw [i64id] <;> omega, show IntKind.i64.wrap ((j2 : Int) - 1) = ((j2 - 1 : Nat) : Int) by rw [i64id] <;> omega]
      simp (disch := omega) only [Int.toNat_natCast, getL0, swpL0, List.length_set, Array.length_toList, cd_t]
      exact ih _ _ _ (by omega) (by rw [size_swp]; exact hs) (by omega) (by omega) (by omega)
theorem e_partEqLoop (a n : Nat) (hn : n ≤ 17592186044416) (ha : a < n) : ∀ (r i j : Nat) (d : Array Int), j + 1 - i ≤ r → d.size = n → 1 ≤ i → i ≤ n → j < n →
    L_slices_partitionEqualOrdered_uint64_5003 ((a : Int), (i : Int), (j : Int), ()) (d.toList, ()) = some (((((partEqLoop ltInt a i j d).1 : Nat) : Int), ()), ((partEqLoop ltInt a i j d).2.toList, ())) := by
  intro r
  induction r with
  | zero =>
    intro i j d h hs hi hin hj
    rw [Le_slices_partitionEqualOrdered_uint64_5003]
    unfold ltree_slices_partitionEqualOrdered_uint64_5003
    rw [e_up_partitionEqualOrdered_3 a j d (by omega) (by omega) (by omega) _ i (Nat.le_refl _) (by omega)]
    simp only [Option.bind_some]
    have h1 := scanUp_ge (fun x => !ltInt d[a]! x) d j i
    have h2 := scanDown_le (fun x => ltInt d[a]! x) d (scanUp (fun x => !ltInt d[a]! x) d j i) j
    rw [e_down_partitionEqualOrdered_5 a _ d (by omega) (by omega) (by omega) j (by omega)]
    simp only [Option.bind_some]
    rw [cd_t (by omega), partEqLoop_eq, if_pos (by omega)]
  | succ r ih =>
    intro i j d h hs hi hin hj
    rw [Le_slices_partitionEqualOrdered_uint64_5003]
    unfold ltree_slices_partitionEqualOrdered_uint64_5003
    rw [e_up_partitionEqualOrdered_3 a j d (by omega) (by omega) (by omega) _ i (Nat.le_refl _) (by omega)]
    simp only [Option.bind_some]
    have h1 := scanUp_ge (fun x => !ltInt d[a]! x) d j i
    have h1' := scanUp_up (fun x => !ltInt d[a]! x) d j i n hin hj
    have h2 := scanDown_le (fun x => ltInt d[a]! x) d (scanUp (fun x => !ltInt d[a]! x) d j i) j
    rw [e_down_partitionEqualOrdered_5 a _ d (by omega) (by omega) (by omega) j (by omega)]
    simp only [Option.bind_some]
    rw [partEqLoop_eq]
    generalize scanUp (fun x => !ltInt d[a]! x) d j i = i2 at *
    generalize scanDown (fun x => ltInt d[a]! x) d i2 j = j2 at *
    by_cases hc : i2 > j2
    · rw [cd_t (by omega), if_pos hc]
    · rw [cd_f (by omega), if_neg hc, show IntKind.i64.wrap ((i2 : Int) + 1) = ((i2 + 1 : Nat) : Int) by rw [i64id] <;> omega, show IntKind.i64.wrap ((j2 : Int) - 1) = ((j2 - 1 : Nat) : Int) by rw [i64id] <;> omega]
      simp (disch := omega) only [Int.toNat_natCast, getL0, swpL0, List.length_set, Array.length_toList, cd_t]
      exact ih _ _ _ (by omega) (by rw [size_swp]; exact hs) (by omega) (by omega) (by omega)
theorem e_partitionEqual {a b p : Nat} {d : Array Int} (hap : a ≤ p) (hpb : p < b) (hb : b ≤ d.size) (hd : d.size ≤ 17592186044416) :
    F_slices_partitionEqualOrdered_uint64 ((a : Int), (b : Int), (p : Int), ()) (d.toList, ()) = some ((((partitionEqual ltInt d a b p).1 : Nat) : Int), ((partitionEqual ltInt d a b p).2.toList, ())) := by
  rw [Fe_slices_partitionEqualOrdered_uint64]
  unfold tree_slices_partitionEqualOrdered_uint64
  simp (disch := omega) only [Int.toNat_natCast, getL0, swpL0, List.length_set, Array.length_toList, cd_t]
  rw [show IntKind.i64.wrap ((a : Int) + 1) = ((a + 1 : Nat) : Int) by rw [i64id] <;> omega, show IntKind.i64.wrap ((b : Int) - 1) = ((b - 1 : Nat) : Int) by rw [i64id] <;> omega,
    e_partEqLoop a d.size hd (by omega) _ (a + 1) (b - 1) _ (Nat.le_refl _) (size_swp _ _ _) (by omega) (by omega) (by omega)]
  rfl
theorem e_partition {a b p : Nat} {d : Array Int} (hap : a ≤ p) (hpb : p < b) (hb : b ≤ d.size) (hd : d.size ≤ 17592186044416) (hr : (partition ltInt d a b p).1 < b) :
    F_slices_partitionOrdered_uint64 ((a : Int), (b : Int), (p : Int), ()) (d.toList, ()) = some (((((partition ltInt d a b p).1 : Nat) : Int), (partition ltInt d a b p).2.1, ()), ((partition ltInt d a b p).2.2.toList, ())) := by
  rw [Fe_slices_partitionOrdered_uint64]
  unfold tree_slices_partitionOrdered_uint64
  simp (disch := omega) only [Int.toNat_natCast, getL0, swpL0, List.length_set, Array.length_toList, cd_t]
  rw [show IntKind.i64.wrap ((a : Int) + 1) = ((a + 1 : Nat) : Int) by rw [i64id] <;> omega, show IntKind.i64.wrap ((b : Int) - 1) = ((b - 1 : Nat) : Int) by rw [i64id] <;> omega]
  have hf := partition_fst ltInt d a b p
  unfold partition at hr ⊢
  dsimp only at hr ⊢
  generalize hD : swp d a p = D at *
  have hs : D.size = d.size := by rw [← hD, size_swp]
  rw [e_up_partitionOrdered_3 a (b - 1) D (by omega) (by omega) (by omega) _ (a + 1) (Nat.le_refl _) (by omega)]
  simp only [Option.bind_some]
  have h1 := scanUp_ge (fun x => ltInt x D[a]!) D (b - 1) (a + 1)
  have h1' := scanUp_up (fun x => ltInt x D[a]!) D (b - 1) (a + 1) b (by omega) (by omega)
  have h2 := scanDown_le (fun x => !ltInt x D[a]!) D (scanUp (fun x => ltInt x D[a]!) D (b - 1) (a + 1)) (b - 1)
  rw [e_down_partitionOrdered_5 a _ D (by omega) (by omega) (by omega) (b - 1) (by omega)]
  simp only [Option.bind_some]
  generalize scanUp (fun x => ltInt x D[a]!) D (b - 1) (a + 1) = i2 at *
  generalize scanDown (fun x => !ltInt x D[a]!) D i2 (b - 1) = j2 at *
  by_cases hc : i2 > j2
  · rw [cd_t (by omega), if_pos hc]
    simp (disch := omega) only [Int.toNat_natCast, getL0, swpL0, List.length_set, Array.length_toList, cd_t]
  · rw [if_neg hc] at hr
    rw [cd_f (by omega), if_neg hc, show IntKind.i64.wrap ((i2 : Int) + 1) = ((i2 + 1 : Nat) : Int) by rw [i64id] <;> omega, show IntKind.i64.wrap ((j2 : Int) - 1) = ((j2 - 1 : Nat) : Int) by rw [i64id] <;> omega]
    simp (disch := omega) only [Int.toNat_natCast, getL0, swpL0, List.length_set, Array.length_toList, cd_t]
    rw [e_partLoop a d.size hd (by omega) _ (i2 + 1) (j2 - 1) _ (Nat.le_refl _) (by rw [size_swp]; exact hs) (by omega) (by omega) (by omega)]
    simp only [Option.bind_some]
    have hs2 := size_partLoop _ a (i2 + 1) (j2 - 1) (swp D i2 j2) (Nat.le_refl _)
    rw [size_swp] at hs2
    generalize partLoop ltInt a (i2 + 1) (j2 - 1) (swp D i2 j2) = R at *
    simp (disch := omega) only [Int.toNat_natCast, getL0, swpL0, List.length_set, Array.length_toList, cd_t]
end Go.Proofs.Ytgakbdikappdbaa.S2
