/- Whatever a voter is asked: one vote in a term. -/
import Derived.Test.YtjhaidbfahobmaaPvlaws
import Derived.Test.YtjhaidbfahobmaaGLVoteOnce
set_option linter.unusedVariables false
set_option linter.unusedSimpArgs false
namespace Go.Proofs.Ytjhaidbfahobmaa.S2
open Go

abbrev Bt := Int × Int × Int × Int
theorem given_loop (asked given : List Bt) (n : Int) (ok : Bool) (t v b u : Int) (xs : List E) (B : Bt) (w1 w2 : Int) (hl : given.length ≤ 1000) (hok : ok = true → ∀ g ∈ given, g.1 = B.1 → g.2.1 = B.2.1) : ∀ (r k : Nat), k + r = given.length →
    L_law16_VoteOnce_12 (asked, n, ok, (k : Int), ()) (given, (t, v, ()), (b, u, xs, ()), (B.1, B.2.1, B.2.2.1, B.2.2.2, ()), (w1, w2, ()), ()) =
      some (.inr ((asked, n, ok, ()), (given, (t, v, ()), (b, u, xs, ()), (B.1, B.2.1, B.2.2.1, B.2.2.2, ()), (w1, w2, ()), ())))
  | 0, k, hr => by
    rw [Le_law16_VoteOnce_12]
    unfold ltree_law16_VoteOnce_12
    rw [cd_f (by omega)]
    cases ok <;> rfl
  | r + 1, k, hr => by
    rw [Le_law16_VoteOnce_12]
    unfold ltree_law16_VoteOnce_12
    cases ok with
    | false => rfl
    | true =>
      have hk : k < given.length := by omega
      simp (disch := omega) only [cond_true, Int.toNat_natCast, cd_t, Nat.zero_add]
      have ih := given_loop asked given n true t v b u xs B w1 w2 hl hok r (k + 1) (by omega)
      rw [show IntKind.i64.wrap ((k : Int) + 1) = ((k + 1 : Nat) : Int) by rw [i64id] <;> omega, ih]
      have hm : given.getD k (0, 0, 0, 0) ∈ given := by
        rw [List.getD_eq_getElem?_getD, List.getElem?_eq_getElem hk]
        exact List.getElem_mem hk
      by_cases h1 : (given.getD k (0, 0, 0, 0)).1 = B.1
      · rw [c_t (beq_iff_eq.2 h1), c_f (bne_eq_false_iff_eq.2 (hok rfl _ hm h1))]
      · rw [c_f (beq_false_of_ne h1)]

/-- What was granted, by what the voter keeps. -/
def Kept (given : List Bt) (t v : Int) : Prop := ∀ g ∈ given, g.1 ≤ t ∧ 0 ≤ g.2.1 ∧ (g.1 = t → v = g.2.1 + 1)
theorem asked_loop (asked : List Bt) (b u : Int) (xs : List E) (hb : 0 ≤ b ∧ b ≤ 4611686018427387904) (hx : xs.length ≤ 140737488355328) (hA : ∀ a ∈ asked, U a.2.1) : ∀ (r i : Nat) (given : List Bt) (t v : Int), i + r = asked.length → given.length ≤ i → Kept given t v →
    L_law16_VoteOnce_5 (asked, (i : Int), ()) (given, (t, v, ()), (b, u, xs, ()), ()) = some (.inr ((), ()))
  | 0, i, given, t, v, hr, hg, hK => by
    rw [Le_law16_VoteOnce_5]
    unfold ltree_law16_VoteOnce_5
    rw [cd_f (by omega)]
  | r + 1, i, given, t, v, hr, hg, hK => by
    rw [Le_law16_VoteOnce_5]
    unfold ltree_law16_VoteOnce_5
    rw [cd_t (by omega)]
    by_cases h100 : i < 100
    rotate_left
    · rw [cd_f (by omega)]
    have hi : i < asked.length := by omega
    rw [cd_t (by omega)]
    simp (disch := omega) only [Int.toNat_natCast, cd_t]
    have hB : U (asked.getD i (0, 0, 0, 0)).2.1 := hA _ (by rw [List.getD_eq_getElem?_getD, List.getElem?_eq_getElem hi]; exact List.getElem_mem hi)
    generalize asked.getD i (0, 0, 0, 0) = B at *
    obtain ⟨B1, B2, B3, B4⟩ := B
    dsimp only at hB ⊢
    obtain ⟨hB0, hB1⟩ := hB
    rw [e_Ask hb hx ⟨hB0, hB1⟩]
    simp only [Option.bind_some]
    have ei : IntKind.i64.wrap ((i : Int) + 1) = ((i + 1 : Nat) : Int) := by rw [i64id] <;> omega
    have stay : ∀ (ok : Bool) (t' v' w1 w2 : Int), (ok = true → ∀ g ∈ given, g.1 = B1 → g.2.1 = B2) →
        L_law16_VoteOnce_12 (asked, (i : Int), ok, 0, ()) (given, (t', v', ()), (b, u, xs, ()), (B1, B2, B3, B4, ()), (w1, w2, ()), ()) =
          some (.inr ((asked, (i : Int), ok, ()), (given, (t', v', ()), (b, u, xs, ()), (B1, B2, B3, B4, ()), (w1, w2, ()), ()))) :=
      fun ok t' v' w1 w2 h => given_loop asked given i ok t' v' b u xs (B1, B2, B3, B4) w1 w2 (by omega) h given.length 0 (by omega)
    have same : ∀ (h : (askS t v b u xs B1 B2 B3 B4) = ((t, v), false)), Kept given t v := fun _ => hK
    by_cases hfirst : B1 < t ∨ B2 = 18446744073709551615
    · have e : askS t v b u xs B1 B2 B3 B4 = ((t, v), false) := by unfold askS; rw [if_pos hfirst]
      rw [e]
      dsimp only
      rw [cd_f (by omega)]
      simp only [cond_false]
      rw [c_t (beq_self_eq_true t)]
      by_cases hv : v = 0
      · rw [c_f (bne_eq_false_iff_eq.2 hv), stay false t v t v (by intro h; cases h)]
        simp only [Option.bind_some, Sum.elim_inr, cond_false]
        rw [ei]
        exact asked_loop asked b u xs hb hx hA r (i + 1) given t v (by omega) (by omega) hK
      · rw [c_t (bne_iff_ne.2 hv), c_f (bne_self_eq_false v), stay false t v t v (by intro h; cases h)]
        simp only [Option.bind_some, Sum.elim_inr, cond_false]
        rw [ei]
        exact asked_loop asked b u xs hb hx hA r (i + 1) given t v (by omega) (by omega) hK
    · have ht : t ≤ B1 := by omega
      have hB2 : B2 ≠ 18446744073709551615 := fun h => hfirst (.inr h)
      have ef : IntKind.u64.wrap (B2 + 1) = B2 + 1 := u64id (by omega) (by omega)
      have hs : (seenS t v B1).1 = B1 ∧ (B1 = t → (seenS t v B1).2 = v) ∧ (B1 ≠ t → (seenS t v B1).2 = 0) := by
        unfold seenS
        by_cases h : t ≥ B1
        · rw [if_pos h]; exact ⟨by dsimp only; omega, fun _ => rfl, fun h' => absurd (by omega : B1 = t) h'⟩
        · rw [if_neg h]; exact ⟨rfl, fun h' => by omega, fun _ => rfl⟩
      obtain ⟨hs1, hs2, hs3⟩ := hs
      by_cases hgrant : ((seenS t v B1).2 = 0 ∨ (seenS t v B1).2 = B2 + 1) ∧ newerS b u xs B3 B4 = true
      · have e : askS t v b u xs B1 B2 B3 B4 = ((B1, B2 + 1), true) := by unfold askS; rw [if_neg hfirst, if_pos hgrant, hs1]
        have hgiven : ∀ g ∈ given, g.1 = B1 → g.2.1 = B2 := fun g hg' he => by
          obtain ⟨k1, k2, k3⟩ := hK g hg'
          have hvt : v = g.2.1 + 1 := k3 (by omega)
          have := hs2 (by omega)
          rcases hgrant.1 with h | h <;> omega
        have hnext := asked_loop asked b u xs hb hx hA r (i + 1) (given ++ [(B1, B2, B3, B4)]) B1 (B2 + 1) (by omega) (by rw [List.length_append]; simp only [List.length_cons, List.length_nil]; omega) (by
          intro g hg'
          rcases List.mem_append.1 hg' with hg' | hg'
          · obtain ⟨k1, k2, k3⟩ := hK g hg'
            exact ⟨by omega, k2, fun he => by rw [hgiven g hg' he]⟩
          · rw [List.mem_singleton.1 hg']
            exact ⟨Int.le_refl _, hB0, fun _ => rfl⟩)
        rw [e]
        dsimp only
        rw [cd_f (by omega)]
        simp only [cond_true]
        rw [c_f (bne_self_eq_false B1), ef, c_f (bne_self_eq_false (B2 + 1))]
        simp only [stay true t v B1 (B2 + 1) (fun _ => hgiven), Option.bind_some, Sum.elim_inr, cond_true, List.nil_append, ei, hnext]
        rw [cd_t (by simp only [List.length_cons, List.length_nil]; omega)]
        by_cases h1 : B1 = t
        · rw [c_t (beq_iff_eq.2 h1)]
          by_cases hv : v = 0
          · rw [c_f (bne_eq_false_iff_eq.2 hv)]
          · have h2 := hs2 h1
            rw [c_t (bne_iff_ne.2 hv), c_f (bne_eq_false_iff_eq.2 (by rcases hgrant.1 with h | h <;> omega))]
        · rw [c_f (beq_false_of_ne h1)]
      · have e : askS t v b u xs B1 B2 B3 B4 = (seenS t v B1, false) := by unfold askS; rw [if_neg hfirst, if_neg hgrant]
        rw [e]
        dsimp only
        rw [hs1, cd_f (by omega)]
        simp only [cond_false]
        have hnext := asked_loop asked b u xs hb hx hA r (i + 1) given B1 (seenS t v B1).2 (by omega) (by omega) (fun g hg' => by
          obtain ⟨k1, k2, k3⟩ := hK g hg'
          refine ⟨by omega, k2, fun he => ?_⟩
          rw [hs2 (by omega)]
          exact k3 (by omega))
        simp only [stay false t v B1 (seenS t v B1).2 (by intro h; cases h), Option.bind_some, Sum.elim_inr, cond_false, ei, hnext]
        by_cases h1 : B1 = t
        · rw [c_t (beq_iff_eq.2 h1)]
          by_cases hv : v = 0
          · rw [c_f (bne_eq_false_iff_eq.2 hv)]
          · rw [c_t (bne_iff_ne.2 hv), c_f (bne_eq_false_iff_eq.2 (hs2 h1))]
        · rw [c_f (beq_false_of_ne h1)]
theorem VoteOnce_plain {t v b u : Int} {xs : List E} {asked : List Bt} (hb : U b) (hx : xs.length ≤ 140737488355328) (hA : ∀ a ∈ asked, U a.2.1) :
    F_law16_VoteOnce ((t, v, ()), (b, u, xs, ()), asked, ()) () = some (true, ()) := by
  rw [Fe_law16_VoteOnce]
  unfold tree_law16_VoteOnce
  rw [e_fixed16]
  simp only [Option.bind_some]
  rw [c_f (by rfl), e_May]
  simp only [Option.bind_some]
  by_cases hm : b ≤ 4611686018427387904 ∧ xs.length ≤ 256
  · rw [decide_eq_true hm, c_f (by rfl)]
    have h := asked_loop asked b u xs ⟨hb.1, hm.1⟩ hx hA asked.length 0 [] t v (by omega) (Nat.le_refl _) (fun g hg => by cases hg)
    have h : L_law16_VoteOnce_5 (asked, 0, ()) ([], (t, v, ()), (b, u, xs, ()), ()) = some (.inr ((), ())) := h
    rw [h]
    rfl
  · rw [decide_eq_false hm, c_t (by rfl)]
end Go.Proofs.Ytjhaidbfahobmaa.S2
