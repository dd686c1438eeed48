/- Numbers, each once, rising: what the layer of votes makes of a list. -/
import Derived.Test.YtgakbdikappdbaaPsort7
import Derived.Test.YtgakbdikappdbaaGstart
set_option linter.unusedVariables false
set_option linter.unusedSimpArgs false
namespace Go.Proofs.Ytgakbdikappdbaa.S2
open Go
def dd : List Int → List Int
  | [] => []
  | [x] => [x]
  | x :: y :: l => if x = y then dd (y :: l) else x :: dd (y :: l)
theorem mem_dd : ∀ (l : List Int) (x : Int), x ∈ dd l ↔ x ∈ l
  | [], x => Iff.rfl
  | [y], x => Iff.rfl
  | y :: z :: l, x => by
    unfold dd
    split
    · rename_i h
      subst h
      rw [mem_dd (y :: l) x]
      simp
    · rw [List.mem_cons, mem_dd (z :: l) x]
      simp
theorem dd_rising : ∀ (l : List Int), l.Pairwise (fun x y => x ≤ y) → (dd l).Pairwise (fun x y => x < y)
  | [], _ => List.Pairwise.nil
  | [x], _ => List.pairwise_singleton _ _
  | x :: y :: l, h => by
    unfold dd
    have h2 := (List.pairwise_cons.1 h).2
    split
    · exact dd_rising (y :: l) h2
    · rename_i hne
      refine List.pairwise_cons.2 ⟨fun z hz => ?_, dd_rising (y :: l) h2⟩
      rw [mem_dd] at hz
      have h1 := (List.pairwise_cons.1 h).1 y (List.mem_cons_self ..)
      have h3 : y ≤ z := by
        rcases List.mem_cons.1 hz with rfl | hz
        · exact Int.le_refl _
        · exact (List.pairwise_cons.1 h2).1 z hz
      omega
theorem rising_ext : ∀ (l k : List Int), l.Pairwise (fun x y => x < y) → k.Pairwise (fun x y => x < y) → (∀ x, x ∈ l ↔ x ∈ k) → l = k
  | [], [], _, _, _ => rfl
  | [], y :: k, _, _, h => by have := (h y).2 (List.mem_cons_self ..); cases this
  | x :: l, [], _, _, h => by have := (h x).1 (List.mem_cons_self ..); cases this
  | x :: l, y :: k, hl, hk, h => by
    obtain ⟨l1, l2⟩ := List.pairwise_cons.1 hl
    obtain ⟨k1, k2⟩ := List.pairwise_cons.1 hk
    have hxy : x = y := by
      rcases List.mem_cons.1 ((h x).1 (List.mem_cons_self ..)) with h1 | h1
      · exact h1
      · rcases List.mem_cons.1 ((h y).2 (List.mem_cons_self ..)) with h2 | h2
        · exact h2.symm
        · have := l1 y h2; have := k1 x h1; omega
    subst hxy
    rw [rising_ext l k l2 k2 fun z => ⟨fun hz => ?_, fun hz => ?_⟩]
    · rcases List.mem_cons.1 ((h z).1 (List.mem_cons_of_mem _ hz)) with rfl | h1
      · have := l1 z hz; omega
      · exact h1
    · rcases List.mem_cons.1 ((h z).2 (List.mem_cons_of_mem _ hz)) with rfl | h1
      · have := k1 z hz; omega
      · exact h1
def onceS (xs : List Int) : List Int := dd (sorted xs)
theorem mem_onceS {xs : List Int} {x : Int} : x ∈ onceS xs ↔ x ∈ xs := by unfold onceS; rw [mem_dd, mem_sorted]
theorem onceS_rising (xs : List Int) : (onceS xs).Pairwise (fun x y => x < y) := dd_rising _ (sorted_pairwise xs)
theorem dd_length : ∀ l : List Int, (dd l).length ≤ l.length
  | [] => Nat.le_refl _
  | [x] => Nat.le_refl _
  | x :: y :: l => by
    unfold dd
    have := dd_length (y :: l)
    split
    · simp at this ⊢; omega
    · simp at this ⊢; omega
theorem onceS_length (xs : List Int) : (onceS xs).length ≤ xs.length := by
  have := dd_length (sorted xs)
  rw [sorted_length] at this
  exact this
theorem onceS_eq {xs ys : List Int} (h1 : ys.Pairwise (fun x y => x < y)) (h2 : ∀ x, x ∈ ys ↔ x ∈ xs) : ys = onceS xs := rising_ext _ _ h1 (onceS_rising xs) fun x => (h2 x).trans mem_onceS.symm
theorem getD_drop {l k : List Int} {n j : Nat} (h : l.drop n = k.drop n) (hj : n ≤ j) : l.getD j 0 = k.getD j 0 := by
  have e : ∀ m : List Int, m.getD j 0 = (m.drop n).getD (j - n) 0 := fun m => by
    rw [List.getD_eq_getElem?_getD, List.getD_eq_getElem?_getD, List.getElem?_drop, show n + (j - n) = j by omega]
  rw [e l, e k, h]
theorem getD_mem {l : List Int} {j : Nat} (h : j < l.length) : l.getD j 0 ∈ l := by
  rw [List.getD_eq_getElem?_getD, List.getElem?_eq_getElem h]
  exact List.getElem_mem h
theorem take_one {l : List Int} {j : Nat} (h : j < l.length) : l.take (j + 1) = l.take j ++ [l.getD j 0] := by
  rw [List.take_add_one, List.getElem?_eq_getElem h, List.getD_eq_getElem?_getD, List.getElem?_eq_getElem h]
  rfl
theorem sorted_at {l : List Int} (h : l.Pairwise (fun x y => x ≤ y)) {i j : Nat} (hij : i ≤ j) (hj : j < l.length) : l.getD i 0 ≤ l.getD j 0 := by
  rcases Nat.lt_or_eq_of_le hij with h1 | h1
  · have := List.pairwise_iff_getElem.1 h i j (by omega) hj h1
    rw [List.getD_eq_getElem?_getD, List.getD_eq_getElem?_getD, List.getElem?_eq_getElem hj, List.getElem?_eq_getElem (by omega)]
    exact this
  · subst h1; exact Int.le_refl _
theorem compact_loop {orig : List Int} (hs : orig.Pairwise (fun x y => x ≤ y)) (hn : orig.length ≤ 17592186044416) (k : Nat) (hk : 1 ≤ k) (hkn : k < orig.length) :
    ∀ (r k2 i : Nat) (cur : List Int), k + k2 + r = orig.length → 1 ≤ k2 → 1 ≤ i → i ≤ k + k2 - 1 → cur.length = orig.length → cur.drop (k + k2 - 1) = orig.drop (k + k2 - 1) →
      (cur.take i).Pairwise (fun x y => x < y) → (∀ x, x ∈ cur.take i ↔ x ∈ orig.take (k + k2)) →
      ∃ (i' : Nat) (cur' : List Int), L_slices_Compact_uint64_9 ((i : Int), (k, orig.length - k), (k2 : Int), ()) (cur, ()) = some (((i' : Int), ()), (cur', ())) ∧ cur'.length = orig.length ∧ i' ≤ orig.length ∧
        (cur'.take i').Pairwise (fun x y => x < y) ∧ ∀ x, x ∈ cur'.take i' ↔ x ∈ orig
  | 0, k2, i, cur, hr, h2, hi1, hi, hc, hd, hp, hm => by
    rw [Le_slices_Compact_uint64_9]
    unfold ltree_slices_Compact_uint64_9
    rw [cd_f (by omega)]
    refine ⟨i, cur, rfl, hc, by omega, hp, fun x => ?_⟩
    rw [hm x, List.take_of_length_le (by omega)]
  | r + 1, k2, i, cur, hr, h2, hi1, hi, hc, hd, hp, hm => by
    rw [Le_slices_Compact_uint64_9]
    unfold ltree_slices_Compact_uint64_9
    have e1 : IntKind.i64.wrap ((k2 : Int) - 1) = ((k2 - 1 : Nat) : Int) := by rw [i64id] <;> omega
    have e2 : IntKind.i64.wrap ((k2 : Int) + 1) = ((k2 + 1 : Nat) : Int) := by rw [i64id] <;> omega
    have e3 : IntKind.i64.wrap ((i : Int) + 1) = ((i + 1 : Nat) : Int) := by rw [i64id] <;> omega
    simp (disch := omega) only [e1, e2, e3, Int.toNat_natCast, cd_t]
    have g1 : cur.getD (k + k2) 0 = orig.getD (k + k2) 0 := getD_drop hd (by omega)
    have g2 : cur.getD (k + (k2 - 1)) 0 = orig.getD (k + k2 - 1) 0 := by rw [show k + (k2 - 1) = k + k2 - 1 by omega]; exact getD_drop hd (Nat.le_refl _)
    rw [g1, g2]
    have hle := sorted_at hs (i := k + k2 - 1) (j := k + k2) (by omega) (by omega)
    have htk : orig.take (k + (k2 + 1)) = orig.take (k + k2) ++ [orig.getD (k + k2) 0] := take_one (l := orig) (j := k + k2) (by omega)
    have hdrop : ∀ c : List Int, c.drop (k + k2 - 1) = orig.drop (k + k2 - 1) → c.drop (k + (k2 + 1) - 1) = orig.drop (k + (k2 + 1) - 1) := fun c h => by
      have e : ∀ m : List Int, m.drop (k + (k2 + 1) - 1) = (m.drop (k + k2 - 1)).drop 1 := fun m => by rw [List.drop_drop]; congr 1; omega
      rw [e c, e orig, h]
    by_cases he : orig.getD (k + k2) 0 = orig.getD (k + k2 - 1) 0
    · rw [c_f (bne_eq_false_iff_eq.2 he)]
      refine compact_loop hs hn k hk hkn r (k2 + 1) i cur (by omega) (by omega) hi1 (by omega) hc (hdrop cur hd) hp fun x => ?_
      rw [hm x, htk, List.mem_append, List.mem_singleton]
      refine ⟨.inl, fun h => h.elim id fun h => ?_⟩
      subst h
      rw [he]
      have : orig.take (k + k2) = orig.take (k + k2 - 1) ++ [orig.getD (k + k2 - 1) 0] := by
        have := take_one (l := orig) (j := k + k2 - 1) (by omega)
        rwa [show k + k2 - 1 + 1 = k + k2 by omega] at this
      rw [this]
      simp
    · rw [c_t (bne_iff_ne.2 he)]
      simp (disch := omega) only [Nat.zero_add]
      have hset : (cur.set i (orig.getD (k + k2) 0)).take (i + 1) = cur.take i ++ [orig.getD (k + k2) 0] := by
        rw [take_one (by rw [List.length_set]; omega), List.take_set_of_le (Nat.le_refl _)]
        congr 2
        rw [List.getD_eq_getElem?_getD, List.getElem?_set_self (by omega)]
        rfl
      refine compact_loop hs hn k hk hkn r (k2 + 1) (i + 1) _ (by omega) (by omega) (by omega) (by omega) (by rw [List.length_set]; exact hc) ?_ ?_ fun x => ?_
      · rw [List.drop_set_of_lt (by omega)]
        exact hdrop cur hd
      · rw [hset, List.pairwise_append]
        refine ⟨hp, List.pairwise_singleton _ _, fun x hx y hy => ?_⟩
        rw [List.mem_singleton] at hy
        subst hy
        rw [hm x] at hx
        obtain ⟨j, hj, hjx⟩ := List.getElem_of_mem hx
        have hj' : j < k + k2 := by rw [List.length_take] at hj; omega
        have hx2 : x = orig.getD j 0 := by
          rw [← hjx, List.getElem_take, List.getD_eq_getElem?_getD, List.getElem?_eq_getElem (by omega)]
          rfl
        have := sorted_at hs (i := j) (j := k + k2 - 1) (by omega) (by omega)
        omega
      · rw [hset, htk, List.mem_append, List.mem_append, hm x]
theorem compact_find {xs : List Int} (hs : xs.Pairwise (fun x y => x ≤ y)) (hn : xs.length ≤ 17592186044416) : ∀ (r k : Nat), k + r = xs.length → 1 ≤ k → (xs.take k).Pairwise (fun x y => x < y) →
    ∃ o, L_slices_Compact_uint64_4 ((k : Int), ()) (xs, ()) = some o ∧
      (Sum.elim (fun u => List.take u.1.1.2 (List.drop u.1.1.1 u.2.1)) (fun u => u.2.1) o).Pairwise (fun x y => x < y) ∧ ∀ x, x ∈ Sum.elim (fun u => List.take u.1.1.2 (List.drop u.1.1.1 u.2.1)) (fun u => u.2.1) o ↔ x ∈ xs
  | 0, k, hr, hk, hp => by
    rw [Le_slices_Compact_uint64_4]
    unfold ltree_slices_Compact_uint64_4
    rw [cd_f (by omega)]
    refine ⟨_, rfl, ?_, fun x => Iff.rfl⟩
    rw [List.take_of_length_le (by omega)] at hp
    exact hp
  | r + 1, k, hr, hk, hp => by
    rw [Le_slices_Compact_uint64_4]
    unfold ltree_slices_Compact_uint64_4
    have e1 : IntKind.i64.wrap ((k : Int) - 1) = ((k - 1 : Nat) : Int) := by rw [i64id] <;> omega
    have e2 : IntKind.i64.wrap ((k : Int) + 1) = ((k + 1 : Nat) : Int) := by rw [i64id] <;> omega
    simp (disch := omega) only [e1, e2, Int.toNat_natCast, cd_t, Nat.zero_add]
    have hle := sorted_at hs (i := k - 1) (j := k) (by omega) (by omega)
    have htk : xs.take (k + 1) = xs.take k ++ [xs.getD k 0] := take_one (by omega)
    have htk1 : xs.take k = xs.take (k - 1) ++ [xs.getD (k - 1) 0] := by
      have := take_one (l := xs) (j := k - 1) (by omega)
      rwa [show k - 1 + 1 = k by omega] at this
    by_cases he : xs.getD k 0 = xs.getD (k - 1) 0
    · rw [c_t (beq_iff_eq.2 he)]
      obtain ⟨i', cur', hL, hc, hi', hp', hm'⟩ := compact_loop hs hn k hk (by omega) r 1 k xs (by omega) (Nat.le_refl _) hk (by omega) rfl rfl hp (fun x => by
        rw [htk, List.mem_append, List.mem_singleton]
        refine ⟨.inl, fun h => h.elim id fun h => ?_⟩
        subst h
        rw [he, htk1]
        simp)
      have hL : L_slices_Compact_uint64_9 ((k : Int), (k, xs.length - k), 1, ()) (xs, ()) = _ := hL
      rw [hL]
      have hfl : (fillL i' (cur'.length - i') 0 cur').length = cur'.length := by
        unfold fillL
        simp
        omega
      have hft : (fillL i' (cur'.length - i') 0 cur').take i' = cur'.take i' := by
        unfold fillL
        rw [List.append_assoc, List.take_append_of_le_length (by simp; omega), List.take_take, Nat.min_self]
      simp (disch := omega) only [Option.bind_some, Int.toNat_natCast, cd_t, Nat.zero_add, hfl, Nat.sub_zero]
      refine ⟨_, rfl, ?_, fun x => ?_⟩
      · simp only [Sum.elim_inl, List.drop_zero, hft]
        exact hp'
      · simp only [Sum.elim_inl, List.drop_zero, hft]
        exact hm' x
    · rw [c_f (beq_false_of_ne he)]
      refine compact_find hs hn r (k + 1) (by omega) (by omega) ?_
      rw [htk, List.pairwise_append]
      refine ⟨hp, List.pairwise_singleton _ _, fun x hx y hy => ?_⟩
      rw [List.mem_singleton] at hy
      subst hy
      obtain ⟨j, hj, hjx⟩ := List.getElem_of_mem hx
      have hj' : j < k := by rw [List.length_take] at hj; omega
      have hx2 : x = xs.getD j 0 := by
        rw [← hjx, List.getElem_take, List.getD_eq_getElem?_getD, List.getElem?_eq_getElem (by omega)]
        rfl
      have := sorted_at hs (i := j) (j := k - 1) (by omega) (by omega)
      omega
theorem e_Compact {xs zs : List Int} (hs : xs.Pairwise (fun x y => x ≤ y)) (hn : xs.length ≤ 17592186044416) (hz : ∀ x, x ∈ xs ↔ x ∈ zs) :
    F_slices_Compact_uint64 () (xs, ()) = some ((), ((), (onceS zs, ()))) := by
  rw [Fe_slices_Compact_uint64]
  unfold tree_slices_Compact_uint64
  by_cases h2 : xs.length < 2
  · rw [cd_t (by omega)]
    have : xs = onceS zs := onceS_eq (by
      match xs, h2 with
      | [], _ => exact List.Pairwise.nil
      | [x], _ => exact List.pairwise_singleton _ _) hz
    rw [this]
  · rw [cd_f (by omega)]
    have h1 : (xs.take 1).Pairwise (fun x y => x < y) := by
      match xs, h2 with
      | [], h2 => exact List.Pairwise.nil
      | [x], h2 => exact List.pairwise_singleton _ _
      | x :: y :: l, _ => exact List.pairwise_singleton _ _
    obtain ⟨o, ho, hp, hm⟩ := compact_find hs hn (xs.length - 1) 1 (by omega) (Nat.le_refl _) h1
    have ho : L_slices_Compact_uint64_4 (1, ()) (xs, ()) = some o := ho
    rw [ho]
    have := onceS_eq hp (fun x => (hm x).trans (hz x))
    rcases o with o | o
    · have this : List.take o.1.1.2 (List.drop o.1.1.1 o.2.1) = onceS zs := this
      simp only [Option.bind_some, Sum.elim_inl, this]
    · have this : o.2.1 = onceS zs := this
      simp only [Option.bind_some, Sum.elim_inr, this]
end Go.Proofs.Ytgakbdikappdbaa.S2
