/- A follower is brought to the leader's terms. -/
import Derived.Test.YtjhaidbfahobmaaPrepl2
import Derived.Test.YtjhaidbfahobmaaPrmerge
import Derived.Test.YtjhaidbfahobmaaGLReplReaches
set_option linter.unusedVariables false
set_option linter.unusedSimpArgs false
namespace Go.Proofs.Ytjhaidbfahobmaa.S2
open Go

/-- The term at a place (0 from). -/
def tm (xs : List E) (i : Nat) : Int := (xs.getD i E0).1
/-- The first entries have the same terms. -/
def Same (X Y : List E) (k : Nat) : Prop := k ≤ X.length ∧ k ≤ Y.length ∧ ∀ i, i < k → tm Y i = tm X i
/-- Where two have one term at a place they have the same terms ahead. -/
def Fits (X Y : List E) : Prop := ∀ i j : Nat, i ≤ j → j < X.length → j < Y.length → tm X j = tm Y j → tm X i = tm Y i

theorem match_loop (X Y : List E) (hX : X.length ≤ 1000) (hY : Y.length ≤ 1000) : ∀ (r i : Nat) (a : Bool), i + r = X.length → (a = true ↔ ∃ j < i, j < Y.length ∧ tm X j ≠ tm Y j) → (∀ p q : Nat, p ≤ q → q < i → q < Y.length → tm X q = tm Y q → tm X p = tm Y p) →
    ∃ o, L_law17_match_3 (X, Y, a, (i : Int), ()) () = some o ∧ (o = .inl ((false, ()), ()) ∨ o = .inr ((), ()) ∧ Fits X Y)
  | 0, i, a, hr, ha, hM => by
    rw [Le_law17_match_3]
    unfold ltree_law17_match_3
    rw [cd_f (by omega)]
    exact ⟨_, rfl, .inr ⟨rfl, fun p q h1 h2 h3 => hM p q h1 (by omega) h3⟩⟩
  | r + 1, i, a, hr, ha, hM => by
    rw [Le_law17_match_3]
    unfold ltree_law17_match_3
    rw [cd_t (by omega)]
    by_cases hy : i < Y.length
    rotate_left
    · rw [cd_f (by omega)]
      exact ⟨_, rfl, .inr ⟨rfl, fun p q h1 h2 h3 => hM p q h1 (by omega) h3⟩⟩
    rw [cd_t (by omega)]
    simp (disch := omega) only [Int.toNat_natCast, cd_t]
    rw [show IntKind.i64.wrap ((i : Int) + 1) = ((i + 1 : Nat) : Int) by rw [i64id] <;> omega]
    have e1 : (X.getD i (0, 0, ByteArray.empty)).1 = tm X i := rfl
    have e2 : (Y.getD i (0, 0, ByteArray.empty)).1 = tm Y i := rfl
    simp only [e1, e2]
    cases a with
    | true =>
      obtain ⟨j, hj, hjy, hne⟩ := ha.1 rfl
      simp only [cond_true]
      by_cases he : tm X i = tm Y i
      · rw [c_t (beq_iff_eq.2 he)]
        exact ⟨_, rfl, .inl rfl⟩
      · rw [c_f (beq_false_of_ne he)]
        refine match_loop X Y hX hY r (i + 1) true (by omega) ⟨fun _ => ⟨j, by omega, hjy, hne⟩, fun _ => rfl⟩ fun p q h1 h2 h3 h4 => ?_
        by_cases e : q = i
        · subst e; exact absurd h4 he
        · exact hM p q h1 (by omega) h3 h4
    | false =>
      simp only [cond_false]
      have hall : ∀ j, j < i → j < Y.length → tm X j = tm Y j := fun j hj hjy => by
        by_cases e : tm X j = tm Y j
        · exact e
        · have := ha.2 ⟨j, hj, hjy, e⟩; cases this
      refine match_loop X Y hX hY r (i + 1) _ (by omega) ⟨fun h => ⟨i, by omega, hy, bne_iff_ne.1 h⟩, ?_⟩ fun p q h1 h2 h3 h4 => ?_
      · rintro ⟨j, hj, hjy, hne⟩
        by_cases e : j = i
        · subst e; exact bne_iff_ne.2 hne
        · exact absurd (hall j (by omega) hjy) hne
      · by_cases e : p = q
        · subst e; exact h4
        · exact hall p (by omega) (by omega)
theorem e_match {X Y : List E} (hX : X.length ≤ 1000) (hY : Y.length ≤ 1000) : ∃ g, F_law17_match (X, Y, ()) () = some (g, ()) ∧ (g = true → Fits X Y) := by
  rw [Fe_law17_match]
  unfold tree_law17_match
  obtain ⟨o, h1, h2⟩ := match_loop X Y hX hY X.length 0 false (by omega) ⟨fun h => (by cases h), fun h => by obtain ⟨j, hj, _⟩ := h; omega⟩ (fun p q _ h => by omega)
  have h1 : L_law17_match_3 (X, Y, false, 0, ()) () = some o := h1
  rw [h1]
  rcases h2 with rfl | ⟨rfl, h2⟩
  · exact ⟨false, rfl, fun h => by cases h⟩
  · exact ⟨true, rfl, fun _ => h2⟩

/-! terms of lists that were put together -/
theorem tm_take {l : List E} {n i : Nat} (h : i < n) : tm (l.take n) i = tm l i := by
  unfold tm
  rw [List.getD_eq_getElem?_getD, List.getD_eq_getElem?_getD, List.getElem?_take_of_lt h]
theorem tm_drop (l : List E) (n i : Nat) : tm (l.drop n) i = tm l (n + i) := by
  unfold tm
  rw [List.getD_eq_getElem?_getD, List.getD_eq_getElem?_getD, List.getElem?_drop]
theorem tm_left {l k : List E} {i : Nat} (h : i < l.length) : tm (l ++ k) i = tm l i := by
  unfold tm
  rw [List.getD_eq_getElem?_getD, List.getD_eq_getElem?_getD, List.getElem?_append_left h]
theorem tm_right {l k : List E} {i : Nat} (h : l.length ≤ i) : tm (l ++ k) i = tm k (i - l.length) := by
  unfold tm
  rw [List.getD_eq_getElem?_getD, List.getD_eq_getElem?_getD, List.getElem?_append_right h]
theorem tm_agree {xs es : List E} {i : Nat} (h : i < agree xs es) : tm xs i = tm es i := by
  obtain ⟨h1, h2, h3⟩ := agree_step h
  unfold tm
  rw [List.getD_eq_getElem?_getD, List.getD_eq_getElem?_getD, List.getElem?_eq_getElem h1, List.getElem?_eq_getElem h2]
  exact h3 h1 h2
theorem term_at (X : List E) (k : Nat) (h : k ≤ X.length) : termS 0 0 X (k : Int) = (if k = 0 then 0 else tm X (k - 1), true) := by
  unfold termS
  by_cases h0 : k = 0
  · subst h0; rfl
  · rw [if_neg (by omega), if_neg h0]
    unfold entS
    rw [if_pos (by omega), show ((k : Int) - 0 - 1).toNat = k - 1 by omega]
    rfl
theorem term_out (Y : List E) (k : Nat) (h : Y.length < k) : (termS 0 0 Y (k : Int)).2 = false := by
  unfold termS entS
  rw [if_neg (by omega), if_neg (by omega)]
/-- Entries of the leader's, laid where all ahead is the same. -/
theorem laid {X Y : List E} {k n : Nat} (hs : Same X Y k) (hX : X.length ≤ 60) (hY : Y.length ≤ 120) (last : Int) :
    ∃ Y', layS Y k last ((X.drop k).take n) = (Y', last, true) ∧ Same X Y' (k + ((X.drop k).take n).length) ∧ Y'.length ≤ 120 := by
  obtain ⟨h1, h2, h3⟩ := hs
  have hel : ((X.drop k).take n).length ≤ X.length - k := by rw [List.length_take, List.length_drop]; omega
  have hen : ((X.drop k).take n).length ≤ n := by rw [List.length_take]; omega
  have htm : ∀ i, i < ((X.drop k).take n).length → tm ((X.drop k).take n) i = tm X (k + i) := fun i hi => by rw [tm_take (by omega), tm_drop]
  generalize (X.drop k).take n = e at *
  obtain ⟨a1, a2⟩ := agree_le (Y.drop k) e
  rw [List.length_drop] at a1
  unfold layS
  by_cases h : agree (Y.drop k) e = e.length
  · rw [if_pos h]
    refine ⟨Y, rfl, ⟨by omega, by omega, fun i hi => ?_⟩, hY⟩
    by_cases hik : i < k
    · exact h3 i hik
    · have := tm_agree (xs := Y.drop k) (es := e) (i := i - k) (by omega)
      rw [tm_drop, htm _ (by omega), show k + (i - k) = i by omega] at this
      exact this
  · rw [if_neg h, if_neg (by omega)]
    refine ⟨_, rfl, ⟨by omega, ?_, fun i hi => ?_⟩, ?_⟩
    · rw [List.length_append, List.length_take, List.length_drop]; omega
    · have hlen : (Y.take (k + agree (Y.drop k) e)).length = k + agree (Y.drop k) e := by rw [List.length_take]; omega
      by_cases hi2 : i < k + agree (Y.drop k) e
      · rw [tm_left (by omega), tm_take hi2]
        by_cases hik : i < k
        · exact h3 i hik
        · have := tm_agree (xs := Y.drop k) (es := e) (i := i - k) (by omega)
          rw [tm_drop, htm _ (by omega), show k + (i - k) = i by omega] at this
          exact this
      · rw [tm_right (by omega), hlen, tm_drop, htm _ (by omega)]
        congr 1
        omega
    · rw [List.length_append, List.length_take, List.length_drop]; omega
theorem merged_same {X Y : List E} {k : Nat} {most q : Int} (hs : Same X Y k) (hX : X.length ≤ 60) (hY : Y.length ≤ 120) (hm : 1 ≤ most) (hq : termS 0 0 Y (k : Int) = (q, true)) :
    ∃ Y', mergeS 0 0 Y (k : Int) q (sliceS 0 X ((k : Int) + 1) most) = (Y', (k : Int) + (sliceS 0 X ((k : Int) + 1) most).length, true) ∧ Same X Y' (k + (sliceS 0 X ((k : Int) + 1) most).length) ∧ Y'.length ≤ 120 ∧
      (k < X.length → 1 ≤ (sliceS 0 X ((k : Int) + 1) most).length) ∧ k + (sliceS 0 X ((k : Int) + 1) most).length ≤ X.length := by
  have e : sliceS 0 X ((k : Int) + 1) most = (X.drop k).take most.toNat := by
    unfold sliceS
    rw [if_neg (by omega), show ((k : Int) + 1 - 0 - 1).toNat = k by omega]
  rw [e]
  have hel : ((X.drop k).take most.toNat).length ≤ X.length - k := by rw [List.length_take, List.length_drop]; omega
  obtain ⟨Y', g1, g2, g3⟩ := laid (n := most.toNat) hs hX hY ((k : Int) + ((X.drop k).take most.toNat).length)
  have hk := hs.1
  refine ⟨Y', ?_, g2, g3, fun h => by rw [List.length_take, List.length_drop]; omega, by omega⟩
  unfold mergeS
  rw [if_neg (by omega), if_neg (by omega), if_pos hq, show ((k : Int) - 0).toNat = k by omega]
  exact g1

theorem send_at {X : List E} {k : Nat} {most : Int} (hk : k ≤ X.length) : sendS 0 0 X ((k : Int) + 1) most = ((k : Int), (termS 0 0 X (k : Int)).1, sliceS 0 X ((k : Int) + 1) most, true) := by
  unfold sendS
  rw [if_neg (by omega), show (k : Int) + 1 - 1 = k by omega]
theorem slice_len (X : List E) (i most : Int) (hX : X.length ≤ 60) : (sliceS 0 X i most).length ≤ 60 := by
  unfold sliceS
  split
  · exact Nat.zero_le _
  · rw [List.length_take, List.length_drop]; omega
/-- Done: the loop ends. -/
theorem reach_done (X F Y : List E) (b u c v most next : Int) (r : Nat) :
    L_law17_ReplReaches_8 (most, next, (r : Int), true, ()) ((b, u, X, ()), (c, v, F, ()), (0, 0, X, ()), (0, 0, Y, ()), ()) = some (.inr ((true, ()), ((0, 0, X, ()), (0, 0, Y, ()), ()))) := by
  rw [Le_law17_ReplReaches_8]
  unfold ltree_law17_ReplReaches_8
  simp only [Bool.not_true, cond_false]
  by_cases h : (r : Int) < IntKind.i64.wrap (IntKind.i64.wrap (2 * (X.length : Int)) + 2)
  · rw [cd_t h]
  · rw [cd_f h]
/-- From where the same stands. -/
theorem reach_on (X F : List E) (b u c v most : Int) (hX : X.length ≤ 60) (hm : 1 ≤ most) : ∀ (d k r : Nat) (Y : List E), k + d = X.length → r + d + 1 ≤ 2 * X.length + 2 → Same X Y k → Y.length ≤ 120 →
    ∃ Y', L_law17_ReplReaches_8 (most, (k : Int) + 1, (r : Int), false, ()) ((b, u, X, ()), (c, v, F, ()), (0, 0, X, ()), (0, 0, Y, ()), ()) = some (.inr ((true, ()), ((0, 0, X, ()), (0, 0, Y', ()), ()))) ∧ Same X Y' X.length ∧ Y'.length ≤ 120 := by
  intro d
  induction d using Nat.strongRecOn with
  | _ d ih =>
    intro k r Y hk hr hs hY
    rw [Le_law17_ReplReaches_8]
    unfold ltree_law17_ReplReaches_8
    have ew : IntKind.i64.wrap (IntKind.i64.wrap (2 * (X.length : Int)) + 2) = 2 * (X.length : Int) + 2 := by
      rw [show IntKind.i64.wrap (2 * (X.length : Int)) = 2 * (X.length : Int) by rw [i64id] <;> omega, i64id] <;> omega
    have hq : termS 0 0 Y (k : Int) = ((termS 0 0 X (k : Int)).1, true) := by
      rw [term_at Y k hs.2.1, term_at X k hs.1]
      by_cases h0 : k = 0
      · rw [if_pos h0, if_pos h0]
      · rw [if_neg h0, if_neg h0, hs.2.2 (k - 1) (by omega)]
    obtain ⟨Y', g1, g2, g3, g4, g5⟩ := merged_same hs hX hY hm hq
    have hsl := slice_len X ((k : Int) + 1) most hX
    rw [ew, cd_t (by omega), e_Send ⟨by omega, by omega⟩ (by omega) ⟨by omega, by omega⟩, send_at hs.1]
    simp only [Bool.not_false, cond_true, Option.bind_some, Bool.not_true, cond_false]
    rw [e_Merge ⟨by omega, by omega⟩ (by omega) ⟨by omega, by omega⟩ (by omega), g1]
    simp only [Option.bind_some, cond_true]
    rw [e_rlog_Last (by omega) (by omega) (by omega)]
    simp only [Option.bind_some]
    rw [show IntKind.u64.wrap ((k : Int) + ((sliceS 0 X ((k : Int) + 1) most).length : Int) + 1) = ((k + (sliceS 0 X ((k : Int) + 1) most).length : Nat) : Int) + 1 by rw [u64id] <;> omega,
      show IntKind.i64.wrap ((r : Int) + 1) = ((r + 1 : Nat) : Int) by rw [i64id] <;> omega]
    by_cases hdone : k + (sliceS 0 X ((k : Int) + 1) most).length = X.length
    · rw [decide_eq_true (by omega), reach_done]
      exact ⟨Y', rfl, hdone ▸ g2, g3⟩
    · rw [decide_eq_false (by omega)]
      have hlt : k < X.length := by omega
      have := g4 hlt
      exact ih (X.length - (k + (sliceS 0 X ((k : Int) + 1) most).length)) (by omega) _ (r + 1) Y' (by omega) (by omega) g2 g3
theorem merge_miss {X Y : List E} {k : Nat} {most : Int} (hX : X.length ≤ 60) (hk : k ≤ X.length) (hq : ¬ termS 0 0 Y (k : Int) = ((termS 0 0 X (k : Int)).1, true)) :
    mergeS 0 0 Y (k : Int) (termS 0 0 X (k : Int)).1 (sliceS 0 X ((k : Int) + 1) most) = (Y, 0, false) := by
  have hsl := slice_len X ((k : Int) + 1) most hX
  unfold mergeS
  rw [if_neg (by omega), if_neg (by omega), if_neg hq]
theorem term_miss {X Y : List E} {k : Nat} (hk : k ≤ X.length) (hq : ¬ (k = 0 ∨ k ≤ Y.length ∧ tm Y (k - 1) = tm X (k - 1))) : ¬ termS 0 0 Y (k : Int) = ((termS 0 0 X (k : Int)).1, true) := by
  intro h
  have hk0 : k ≠ 0 := fun h => hq (.inl h)
  by_cases hky : k ≤ Y.length
  · rw [term_at Y k hky, term_at X k hk, if_neg hk0, if_neg hk0] at h
    exact hq (.inr ⟨hky, (Prod.mk.inj h).1⟩)
  · have h2 := term_out Y k (by omega)
    have h3 : (termS 0 0 Y (k : Int)).2 = true := congrArg Prod.snd h
    rw [h2] at h3
    exact absurd h3 (by decide)
theorem back_at {k n : Nat} (hk : k ≠ 0) : backS ((k : Int) + 1) (0 + (n : Int)) = ((min n (k - 1) : Nat) : Int) + 1 := by
  unfold backS
  rw [if_neg (by omega)]
  split <;> omega
theorem merge_call {Y e : List E} {k : Nat} {q : Int} (hk : k ≤ 60) (hY : Y.length ≤ 120) (he : e.length ≤ 60) :
    F_rlog_Merge ((0, 0, Y, ()), (k : Int), q, e, ()) () = some (((0, 0, (mergeS 0 0 Y (k : Int) q e).1, ()), (mergeS 0 0 Y (k : Int) q e).2.1, (mergeS 0 0 Y (k : Int) q e).2.2, ()), ()) :=
  e_Merge ⟨by omega, by omega⟩ (by omega) ⟨by omega, by omega⟩ (by omega)
theorem merge_no {X Y : List E} {k : Nat} {most : Int} (hX : X.length ≤ 60) (hY : Y.length ≤ 60) (hk : k ≤ X.length) (hq : ¬ termS 0 0 Y (k : Int) = ((termS 0 0 X (k : Int)).1, true)) :
    ∃ z : Int, F_rlog_Merge ((0, 0, Y, ()), (k : Int), (termS 0 0 X (k : Int)).1, sliceS 0 X ((k : Int) + 1) most, ()) () = some (((0, 0, Y, ()), z, false, ()), ()) := by
  have hsl := slice_len X ((k : Int) + 1) most hX
  refine ⟨0, ?_⟩
  rw [merge_call (by omega) (by omega) hsl, merge_miss hX hk hq]
/-- Back to where the same stands, and on. -/
theorem reach_back (X F : List E) (b u c v most : Int) (hX : X.length ≤ 60) (hm : 1 ≤ most) (Y : List E) (hY : Y.length ≤ 60) (hF : Fits X Y) : ∀ (k r : Nat), k ≤ X.length → r + k + X.length + 1 ≤ 2 * X.length + 2 →
    ∃ Y', L_law17_ReplReaches_8 (most, (k : Int) + 1, (r : Int), false, ()) ((b, u, X, ()), (c, v, F, ()), (0, 0, X, ()), (0, 0, Y, ()), ()) = some (.inr ((true, ()), ((0, 0, X, ()), (0, 0, Y', ()), ()))) ∧ Same X Y' X.length ∧ Y'.length ≤ 120 := by
  intro k
  induction k using Nat.strongRecOn with
  | _ k ih =>
    intro r hk hr
    by_cases hq : k = 0 ∨ k ≤ Y.length ∧ tm Y (k - 1) = tm X (k - 1)
    · have hs : Same X Y k := by
        rcases hq with rfl | ⟨h1, h2⟩
        · exact ⟨Nat.zero_le _, Nat.zero_le _, fun i hi => by omega⟩
        · exact ⟨hk, h1, fun i hi => (hF i (k - 1) (by omega) (by omega) (by omega) h2.symm).symm⟩
      exact reach_on X F b u c v most hX hm (X.length - k) k r Y (by omega) (by omega) hs (by omega)
    · have hk0 : k ≠ 0 := fun h => hq (.inl h)
      have hq' := term_miss hk hq
      rw [Le_law17_ReplReaches_8]
      unfold ltree_law17_ReplReaches_8
      have ew : IntKind.i64.wrap (IntKind.i64.wrap (2 * (X.length : Int)) + 2) = 2 * (X.length : Int) + 2 := by
        rw [show IntKind.i64.wrap (2 * (X.length : Int)) = 2 * (X.length : Int) by rw [i64id] <;> omega, i64id] <;> omega
      have hsl := slice_len X ((k : Int) + 1) most hX
      rw [ew, cd_t (by omega), e_Send ⟨by omega, by omega⟩ (by omega) ⟨by omega, by omega⟩, send_at hk]
      simp only [Bool.not_false, cond_true, Option.bind_some, Bool.not_true, cond_false]
      obtain ⟨z, hz⟩ := merge_no (most := most) hX hY hk hq'
      rw [hz, Option.bind_some, c_f rfl, e_rlog_Last (by omega) (by omega) (by omega), Option.bind_some, e_Back ⟨by omega, by omega⟩ ⟨by omega, by omega⟩, Option.bind_some,
        show IntKind.i64.wrap ((r : Int) + 1) = ((r + 1 : Nat) : Int) by rw [i64id] <;> omega, back_at hk0]
      exact ih (min Y.length (k - 1)) (by omega) (r + 1) (by omega) (by omega)
theorem check_loop (X Y : List E) (hX : X.length ≤ 60) (hY : Y.length ≤ 120) (hs : Same X Y X.length) : ∀ (r i : Nat), i + r = X.length →
    L_law17_ReplReaches_22 ((i : Int) + 1, ()) ((0, 0, X, ()), (0, 0, Y, ()), ()) = some (.inr ((), ()))
  | 0, i, hr => by
    rw [Le_law17_ReplReaches_22]
    unfold ltree_law17_ReplReaches_22
    rw [e_rlog_Last (by omega) (by omega) (by omega)]
    simp only [Option.bind_some]
    rw [cd_f (by omega)]
  | r + 1, i, hr => by
    rw [Le_law17_ReplReaches_22]
    unfold ltree_law17_ReplReaches_22
    have h2 := hs.2.1
    have hU : U ((i : Int) + 1) := ⟨by omega, by omega⟩
    rw [e_rlog_Last (by omega) (by omega) (by omega)]
    simp only [Option.bind_some]
    rw [cd_t (by omega), e_rlog_Term ⟨by omega, by omega⟩ hU (by omega), e_rlog_Term ⟨by omega, by omega⟩ hU (by omega)]
    simp only [Option.bind_some]
    have t1 := term_at X (i + 1) (by omega)
    have t2 := term_at Y (i + 1) (by omega)
    rw [show ((i + 1 : Nat) : Int) = (i : Int) + 1 by omega, if_neg (by omega)] at t1 t2
    rw [t1, t2]
    dsimp only
    rw [c_f (by rfl), c_f (bne_eq_false_iff_eq.2 (hs.2.2 (i + 1 - 1) (by omega)).symm), show IntKind.u64.wrap ((i : Int) + 1 + 1) = ((i + 1 : Nat) : Int) + 1 by rw [u64id] <;> omega]
    exact check_loop X Y hX hY hs r (i + 1) (by omega)
theorem ReplReaches_plain {b u c v most : Int} {X Y : List E} : F_law17_ReplReaches ((b, u, X, ()), (c, v, Y, ()), most, ()) () = some (true, ()) := by
  rw [Fe_law17_ReplReaches]
  unfold tree_law17_ReplReaches
  rw [e_fixed17]
  simp only [Option.bind_some]
  rw [c_f (by rfl)]
  by_cases h1 : X.length > 60
  · rw [cd_t (by omega)]
  rw [cd_f (by omega)]
  by_cases h2 : Y.length > 60
  · rw [cd_t (by omega)]
  rw [cd_f (by omega)]
  by_cases h3 : most < 1
  · rw [cd_t h3]
  obtain ⟨g, h4, h5⟩ := e_match (X := X) (Y := Y) (by omega) (by omega)
  rw [cd_f h3, h4]
  simp only [Option.bind_some]
  cases g with
  | false => rfl
  | true =>
    rw [c_f (by rfl), e_rlog_Last (by omega) (by omega) (by omega)]
    simp only [Option.bind_some]
    rw [show IntKind.u64.wrap (0 + (X.length : Int) + 1) = (X.length : Int) + 1 by rw [u64id] <;> omega]
    obtain ⟨Y', k1, k2, k3⟩ := reach_back X Y b u c v most (by omega) (by omega) Y (by omega) (h5 rfl) X.length 0 (Nat.le_refl _) (by omega)
    have k1 : L_law17_ReplReaches_8 (most, (X.length : Int) + 1, 0, false, ()) ((b, u, X, ()), (c, v, Y, ()), (0, 0, X, ()), (0, 0, Y, ()), ()) = _ := k1
    rw [k1]
    simp only [Option.bind_some, Sum.elim_inr]
    have hc := check_loop X Y' (by omega) k3 k2 X.length 0 (by omega)
    have hc : L_law17_ReplReaches_22 (1, ()) ((0, 0, X, ()), (0, 0, Y', ()), ()) = _ := hc
    rw [c_f (by rfl), hc]
    rfl
end Go.Proofs.Ytjhaidbfahobmaa.S2
