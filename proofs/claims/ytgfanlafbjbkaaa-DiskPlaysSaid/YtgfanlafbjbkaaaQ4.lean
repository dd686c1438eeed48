/- What a crash that keeps all, or nothing, leaves. -/
import Derived.Test.YtgfanlafbjbkaaaQ3
set_option linter.unusedVariables false
set_option linter.unusedSimpArgs false
namespace Go.Proofs.Ytgfanlafbjbkaaa.S2
open Go

theorem keepS_congr {c c' : Nat → Nat} : ∀ (l : List W2) (k : Nat) (safe : List ByteArray), (∀ j, k ≤ j → j < k + l.length → c j = c' j) → keepS c k safe l = keepS c' k safe l
  | [], _, _, _ => rfl
  | p :: l, k, safe, h => by
    show keepS c (k + 1) (layW (c k) safe p) l = keepS c' (k + 1) (layW (c' k) safe p) l
    rw [List.length_cons] at h
    rw [h k (Nat.le_refl _) (by omega)]
    exact keepS_congr l (k + 1) _ fun j h1 h2 => h j (by omega) (by omega)

theorem layW_0 (safe : List ByteArray) (p : W2) : layW 0 safe p = safe := by
  unfold layW
  rw [ByteArray.extract_zero_size, show p.2.extract 0 0 = ByteArray.empty by rw [← ByteArray.size_eq_zero_iff, ByteArray.size_extract]; omega, ByteArray.empty_append]
  by_cases h : p.1.toNat < safe.length
  · rw [List.getD_eq_getElem?_getD, List.getElem?_eq_getElem h]
    exact List.set_getElem_self h
  · exact List.set_eq_of_length_le (by omega)

theorem keepS_0 : ∀ (l : List W2) (k : Nat) (safe : List ByteArray), keepS (fun _ => 0) k safe l = safe
  | [], _, _ => rfl
  | p :: l, k, safe => by
    show keepS (fun _ => 0) (k + 1) (layW 0 safe p) l = safe
    rw [layW_0]
    exact keepS_0 l (k + 1) safe

theorem all_flush {size : Int} {safe : List ByteArray} {pend : List W2} : keepS (fun k => (clampS size ((List.replicate pend.length size).getD k 0)).toNat) 0 safe pend = flushS size safe pend := by
  refine keepS_congr _ _ _ fun j _ h => ?_
  rw [List.getD_eq_getElem?_getD, List.getElem?_replicate, if_pos (by omega)]
  rfl

theorem Ends_loop8 {n size : Int} {l : List ActR} {S : List ByteArray} {P : List W2} (hp : P.length ≤ 1000) : ∀ (d k : Nat), k + d = P.length →
    L_law08_DiskEnds_8 ((k : Int), ()) (List.replicate k size, (n, size, l, ()), (size, ()), S, P, (size, ()), S, P, (size, ()), S, P, ()) =
      some ((), (List.replicate P.length size, (n, size, l, ()), (size, ()), S, P, (size, ()), S, P, (size, ()), S, P, ()))
  | 0, k, hk => by
    rw [Le_law08_DiskEnds_8]
    unfold ltree_law08_DiskEnds_8
    rw [e_Pending]
    simp only [Option.bind_some]
    rw [cd_f (by omega), show k = P.length by omega]
  | d + 1, k, hk => by
    rw [Le_law08_DiskEnds_8]
    unfold ltree_law08_DiskEnds_8
    rw [e_Pending]
    simp only [Option.bind_some]
    rw [cd_t (by omega), cd_t (by rw [List.length_replicate]; omega), i64id (by omega) (by omega), List.nil_append, ← List.replicate_succ', show ((k : Int) + 1) = ((k + 1 : Nat) : Int) by omega]
    exact Ends_loop8 hp d (k + 1) (by omega)

theorem Ends_loop14 {n size : Int} {l : List ActR} {all : List Int} {S : List ByteArray} {P : List W2} (h : DInv size S P) (hn : (S.length : Int) = n) : ∀ (d k : Nat), (k : Int) + d = n →
    L_law08_DiskEnds_14 ((k : Int), ()) (all, (n, size, l, ()), (size, ()), flushS size S P, (size, ()), flushS size S P, (size, ()), S, P, [], [], ()) =
      some (.inr ((), ((n, size, l, ()), (size, ()), S, P, ())))
  | 0, k, hk => by
    rw [Le_law08_DiskEnds_14]
    unfold ltree_law08_DiskEnds_14
    rw [cd_f (by omega)]
  | d + 1, k, hk => by
    have h2 := h.n2
    have hin : 0 ≤ (k : Int) ∧ (k : Int) < (S.length : Int) := by omega
    rw [Le_law08_DiskEnds_14]
    unfold ltree_law08_DiskEnds_14
    rw [cd_t (by omega), e_Read (by simp), e_Safe, e_Safe, e_Read h.few]
    have e1 : readS (flushS size S P) [] (k : Int) = safeS (flushS size S P) (k : Int) := rfl
    rw [e1, flush_at h, if_pos hin]
    simp only [Option.bind_some, beq_self_eq_true, Bool.not_true, cond_false]
    have e2 : (safeS S (k : Int)).1 = S.getD k ByteArray.empty := by unfold safeS; rw [if_pos hin, Int.toNat_natCast]
    have hs := h.sz _ (getD_mem (l := S) (i := k) (d := ByteArray.empty) (by omega))
    rw [e2, cond_nei, if_pos hs, i64id (by omega) (by omega), show ((k : Int) + 1) = ((k + 1 : Nat) : Int) by omega]
    exact Ends_loop14 h hn d (k + 1) (by omega)

theorem Ends_loop25 {n size : Int} {l : List ActR} {S : List ByteArray} {P : List W2} (hn : n ≤ 256) : ∀ (d k : Nat), (k : Int) + d = n →
    L_law08_DiskEnds_25 ((k : Int), ()) ((n, size, l, ()), (size, ()), S, P, (size, ()), S, [], ()) = some (.inr ((), ()))
  | 0, k, hk => by
    rw [Le_law08_DiskEnds_25]
    unfold ltree_law08_DiskEnds_25
    rw [cd_f (by omega)]
  | d + 1, k, hk => by
    rw [Le_law08_DiskEnds_25]
    unfold ltree_law08_DiskEnds_25
    rw [cd_t (by omega), e_Read (by simp), e_Safe]
    have e1 : readS S [] (k : Int) = safeS S (k : Int) := rfl
    rw [e1]
    simp only [Option.bind_some, beq_self_eq_true, Bool.not_true, cond_false]
    rw [i64id (by omega) (by omega), show ((k : Int) + 1) = ((k + 1 : Nat) : Int) by omega]
    exact Ends_loop25 hn d (k + 1) (by omega)

theorem p_Ends {n size : Int} {l : List ActR} : F_law08_DiskEnds ((n, size, l, ()), ()) () = some (true, ()) := by
  rw [Fe_law08_DiskEnds]
  unfold tree_law08_DiskEnds
  by_cases hok : okN n size
  · rw [e_made hok, e_fixed]
    obtain ⟨hd, hn, hp⟩ := made_DInv (l := l) hok
    simp only [Option.bind_some, Sum.elim_inr, Bool.not_true, cond_false]
    have hk := hok.2.1
    have h1 := hok.1
    have l8 := Ends_loop8 (n := n) (size := size) (l := l) (S := (madeS n size l).1) (P := (madeS n size l).2) (by omega) (madeS n size l).2.length 0 (by omega)
    rw [show ((0 : Nat) : Int) = 0 from rfl, show List.replicate 0 size = [] from rfl] at l8
    rw [l8]
    simp only [Option.bind_some]
    rw [e_Crash hd, all_flush]
    simp only [Option.bind_some]
    rw [e_Flush hd]
    simp only [Option.bind_some]
    have l14 := Ends_loop14 (l := l) (all := List.replicate (madeS n size l).2.length size) hd hn n.toNat 0 (by omega)
    rw [show ((0 : Nat) : Int) = 0 from rfl] at l14
    unfold flushS at l14 ⊢
    rw [l14]
    simp only [Option.bind_some, Sum.elim_inr]
    rw [e_made hok]
    simp only [Option.bind_some, Sum.elim_inr]
    rw [e_Crash hd]
    have e0 : (fun k => (clampS size (([] : List Int).getD k 0)).toNat) = fun _ => 0 := by
      funext k
      have hs := hd.size0
      show (clampS size 0).toNat = 0
      unfold clampS
      rw [if_neg (show ¬ (0 : Int) > 0 by omega), if_neg (show ¬ size < 0 by omega)]; rfl
    rw [e0, keepS_0]
    simp only [Option.bind_some]
    have l25 := Ends_loop25 (n := n) (size := size) (l := l) (S := (madeS n size l).1) (P := (madeS n size l).2) hk n.toNat 0 (by omega)
    rw [show ((0 : Nat) : Int) = 0 from rfl] at l25
    rw [l25]
    rfl
  · rw [e_made_no hok, e_fixed]
    rfl

theorem plain_Ends (x : args_law08_DiskEnds.T) : F_law08_DiskEnds x () = some (true, ()) := by
  obtain ⟨⟨n, size, l, _⟩, _⟩ := x
  exact p_Ends
end Go.Proofs.Ytgfanlafbjbkaaa.S2
