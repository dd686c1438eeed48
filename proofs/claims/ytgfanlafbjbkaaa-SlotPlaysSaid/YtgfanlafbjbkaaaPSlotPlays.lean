/- A slot behind any acts. -/
import Derived.Test.YtgfanlafbjbkaaaGLSlotPlays
import Derived.Test.YtgfanlafbjbkaaaP09
set_option linter.unusedVariables false
set_option linter.unusedSimpArgs false
namespace Go.Proofs.Ytgfanlafbjbkaaa.S2
open Go

theorem SPlays_loop {n size a b : Int} {l : List ActR} : ∀ (d k : Nat) (S : List ByteArray) (P : List W2), DInv size S P → P.length ≤ k → k + d = (l.take 100).length →
    L_law09_SlotPlays_6 (true, (k : Int), ()) (P, pendR P, (n, size, a, b, l, ()), (size, ()), S, (size, ()), S, ()) = some (.inr ((), ()))
  | 0, k, S, P, h, hp, hk => by
    rw [Le_law09_SlotPlays_6]
    unfold ltree_law09_SlotPlays_6
    rw [List.length_take] at hk
    simp only [cond_true, cond_decide]
    by_cases h1 : (k : Int) < l.length
    · rw [if_pos h1, if_neg (show ¬ (k : Int) < 100 by omega)]
    · rw [if_neg h1]
  | d + 1, k, S, P, h, hp, hk => by
    have hk2 := hk
    rw [List.length_take] at hk2
    have hi : (k : Int) < l.length := by omega
    have hi4 : (k : Int) < 100 := by omega
    have hi0 : (0 : Int) ≤ k := by omega
    rw [Le_law09_SlotPlays_6]
    unfold ltree_law09_SlotPlays_6
    simp only [cond_true, cd_t hi, cd_t hi4, cd_t hi0, Int.toNat_natCast, cond_eqi]
    by_cases h0 : (l.getD k (0, 0, ByteArray.empty, [])).1 = 0
    · rw [if_pos h0, e_Begin h, r_Begin h]
      simp only [Option.bind_some, bne_self_eq_false, cond_false]
      have hd' := beg_DInv (a := a) (b := b) (t := (l.getD k (0, 0, ByteArray.empty, [])).2.2.1) h (by omega)
      have hlen : (P ++ (begD size S P a b (l.getD k (0, 0, ByteArray.empty, [])).2.2.1).toList).length ≤ k + 1 := by
        cases begD size S P a b (l.getD k (0, 0, ByteArray.empty, [])).2.2.1 <;> simp <;> omega
      rw [e_Load hd'.few, r_Load hd']
      simp only [Option.bind_some, bne_self_eq_false, cond_false, bytes_self, Bool.not_true]
      rw [e_Pending]
      simp only [Option.bind_some]
      rw [pendR_len, cond_nei, if_pos rfl, i64id (by omega) (by omega), show ((k : Int) + 1) = ((k + 1 : Nat) : Int) by omega]
      exact SPlays_loop d (k + 1) S _ hd' hlen (by omega)
    · rw [if_neg h0]
      by_cases h2 : (l.getD k (0, 0, ByteArray.empty, [])).1 = 2
      · rw [if_pos h2, r_Begin h]
        simp only [Option.bind_some]
        have hd' := beg_DInv (a := a) (b := b) (t := (l.getD k (0, 0, ByteArray.empty, [])).2.2.1) h (by omega)
        rw [r_Flush hd', e_Save h (by omega)]
        simp only [Option.bind_some]
        cases hbeg : begD size S P a b (l.getD k (0, 0, ByteArray.empty, [])).2.2.1 with
        | none =>
          rw [hbeg] at hd'
          simp only [Option.isSome_none, Option.toList_none, List.append_nil, cond_false, Bool.false_eq_true, if_false, bne_self_eq_false]
          rw [e_Load h.few, r_Load h]
          simp only [Option.bind_some, bne_self_eq_false, cond_false, bytes_self, Bool.not_true]
          rw [e_Pending]
          simp only [Option.bind_some]
          rw [pendR_len, cond_nei, if_pos rfl, i64id (by omega) (by omega), show ((k : Int) + 1) = ((k + 1 : Nat) : Int) by omega]
          exact SPlays_loop d (k + 1) S P h (by omega) (by omega)
        | some p =>
          rw [hbeg] at hd'
          have hf : DInv size (flushS size S (P ++ [p])) [] := hd'.keep fun _ => clampN h.size0
          simp only [Option.isSome_some, Option.toList_some, cond_true, if_true, bne_self_eq_false, cond_false]
          rw [e_Load (by simp), show ([] : List ActR) = pendR [] from rfl, r_Load hf]
          simp only [Option.bind_some, bne_self_eq_false, cond_false, bytes_self, Bool.not_true]
          rw [e_Pending]
          simp only [Option.bind_some]
          rw [pendR_len, cond_nei, if_pos rfl, i64id (by omega) (by omega), show ((k : Int) + 1) = ((k + 1 : Nat) : Int) by omega]
          exact SPlays_loop d (k + 1) _ [] hf (by simp) (by omega)
      · rw [if_neg h2, e_Do h]
        simp only [Option.bind_some]
        rw [r_Do h]
        simp only [Option.bind_some]
        have hd' := act_DInv (a := l.getD k (0, 0, ByteArray.empty, [])) h (by omega)
        rw [e_Load hd'.few, r_Load hd']
        simp only [Option.bind_some, bne_self_eq_false, cond_false, bytes_self, Bool.not_true]
        rw [e_Pending]
        simp only [Option.bind_some]
        rw [pendR_len, cond_nei, if_pos rfl, i64id (by omega) (by omega), show ((k : Int) + 1) = ((k + 1 : Nat) : Int) by omega]
        exact SPlays_loop d (k + 1) _ _ hd' (Nat.le_trans act_pend (by omega)) (by omega)

theorem p_SPlays {n size a b : Int} {l : List ActR} : F_law09_SlotPlays ((n, size, a, b, l, ()), ()) () = some (true, ()) := by
  rw [Fe_law09_SlotPlays]
  unfold tree_law09_SlotPlays
  by_cases hok : okN n size
  · rw [e_New hok, r_New hok, e_fixed9]
    simp only [Option.bind_some, Sum.elim_inr, Bool.not_true, cond_false]
    have := SPlays_loop (n := n) (a := a) (b := b) (l := l) (l.take 100).length 0 _ _ (new_DInv hok) (by simp) (by omega)
    rw [show ((0 : Nat) : Int) = 0 from rfl, show pendR [] = [] from rfl] at this
    rw [this]
    rfl
  · rw [e_New_no hok, r_New_no hok, e_fixed9]
    simp only [Option.bind_some, Sum.elim_inl, Bool.not_true, cond_false]
    rw [Le_law09_SlotPlays_6w1]
    unfold ltree_law09_SlotPlays_6w1
    rfl

theorem plain_SPlays (x : args_law09_SlotPlays.T) : F_law09_SlotPlays x () = some (true, ()) := by
  obtain ⟨⟨n, size, a, b, l, _⟩, _⟩ := x
  exact p_SPlays

end Go.Proofs.Ytgfanlafbjbkaaa.S2
