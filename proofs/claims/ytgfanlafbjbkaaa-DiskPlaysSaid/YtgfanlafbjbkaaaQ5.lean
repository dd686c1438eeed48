/- The stage's theorem: behind a crash each byte is the safe one or that of a write. -/
import Derived.Test.YtgfanlafbjbkaaaQ4
set_option linter.unusedVariables false
set_option linter.unusedSimpArgs false
namespace Go.Proofs.Ytgfanlafbjbkaaa.S2
open Go

theorem strAt_app (a b : ByteArray) (k : Nat) : strAt (a ++ b) (k : Int) = if k < a.size then strAt a (k : Int) else strAt b ((k - a.size : Nat) : Int) := by
  unfold strAt
  rw [ByteArray.data_append, Array.toList_append, List.getD_eq_getElem?_getD, List.getElem?_append]
  simp only [Int.toNat_natCast]
  have hs : a.data.toList.length = a.size := rfl
  rw [hs]
  split <;> rfl

theorem strAt_ext (a : ByteArray) (i j k : Nat) (h : i + k < j) (hj : j ≤ a.size) : strAt (a.extract i j) (k : Int) = strAt a ((i + k : Nat) : Int) := by
  unfold strAt
  rw [ByteArray.data_extract, Array.toList_extract, List.extract_eq_take_drop, List.getD_eq_getElem?_getD, List.getElem?_take, List.getElem?_drop]
  simp only [Int.toNat_natCast]
  rw [if_pos (by omega)]
  rfl

theorem strAt_mix {a b : ByteArray} {c k : Nat} {size : Int} (ha : (a.size : Int) = size) (hb : (b.size : Int) = size) (hc : (c : Int) ≤ size) (hk : (k : Int) < size) :
    strAt (a.extract 0 c ++ b.extract c b.size) (k : Int) = if k < c then strAt a (k : Int) else strAt b (k : Int) := by
  rw [strAt_app]
  have hs : (a.extract 0 c).size = c := by rw [ByteArray.size_extract]; omega
  rw [hs]
  by_cases h : k < c
  · rw [if_pos h, if_pos h, strAt_ext _ _ _ _ (by omega) (by omega), Nat.zero_add]
  · rw [if_neg h, if_neg h, strAt_ext _ _ _ _ (by omega) (by omega), show c + (k - c) = k by omega]

theorem keepS_byte {size : Int} {c : Nat → Nat} (hc : ∀ k, (c k : Int) ≤ size) : ∀ (l : List W2) (k : Nat) (safe : List ByteArray),
    (∀ s, s ∈ safe → (s.size : Int) = size) → (∀ p, p ∈ l → 0 ≤ p.1 ∧ p.1 < safe.length ∧ (p.2.size : Int) = size) → ∀ i j : Nat, i < safe.length → (j : Int) < size →
    strAt ((keepS c k safe l).getD i ByteArray.empty) (j : Int) = strAt (safe.getD i ByteArray.empty) (j : Int) ∨ ∃ p, p ∈ l ∧ p.1 = (i : Int) ∧ strAt p.2 (j : Int) = strAt ((keepS c k safe l).getD i ByteArray.empty) (j : Int)
  | [], k, safe, hs, hp, i, j, hi, hj => Or.inl rfl
  | p :: l, k, safe, hs, hp, i, j, hi, hj => by
    have h1 := hp p List.mem_cons_self
    show strAt ((keepS c (k + 1) (layW (c k) safe p) l).getD i ByteArray.empty) (j : Int) = _ ∨ ∃ q, q ∈ p :: l ∧ q.1 = (i : Int) ∧ strAt q.2 (j : Int) = strAt ((keepS c (k + 1) (layW (c k) safe p) l).getD i ByteArray.empty) (j : Int)
    rcases keepS_byte hc l (k + 1) (layW (c k) safe p) (layW_sz (hc k) hs h1) (fun q hq => by rw [layW_len]; exact hp q (List.mem_cons_of_mem _ hq)) i j (by rw [layW_len]; exact hi) hj with h | ⟨q, hq, h2, h3⟩
    · have hsz := hs _ (getD_mem (l := safe) (i := p.1.toNat) (d := ByteArray.empty) (by omega))
      rw [layW_at (size := size) ⟨h1.1, h1.2.1⟩] at h
      by_cases hi2 : p.1.toNat = i
      · rw [if_pos hi2, strAt_mix h1.2.2 hsz (hc k) hj] at h
        by_cases hk : j < c k
        · rw [if_pos hk] at h
          exact Or.inr ⟨p, List.mem_cons_self, by omega, h.symm⟩
        · rw [if_neg hk, hi2] at h
          exact Or.inl h
      · rw [if_neg hi2] at h
        exact Or.inl h
    · exact Or.inr ⟨q, List.mem_cons_of_mem _ hq, h2, h3⟩

/-- Is that byte that of a write? -/
def okW (s : ByteArray) (at_ k : Int) (w : ActR) : Bool := decide (w.2.1 = at_ ∧ (w.2.2.1.size : Int) = s.size ∧ strAt w.2.2.1 k = strAt s k)

theorem mixed_loop6 {s safe : ByteArray} {W : List ActR} {at_ : Int} {k : Nat} (hk : k < s.size) (hW : W.length ≤ 1000) : ∀ (d j : Nat) (ok : Bool), j + d = W.length →
    L_law08_mixed_6 (s, safe, W, at_, (k : Int), ok, (j : Int), ()) () = some ((s, safe, W, at_, (k : Int), ok || (W.drop j).any (okW s at_ (k : Int)), ()), ())
  | 0, j, ok, hj => by
    rw [Le_law08_mixed_6]
    unfold ltree_law08_mixed_6
    rw [cd_f (by omega), List.drop_of_length_le (by omega), List.any_nil, Bool.or_false]
  | d + 1, j, ok, hj => by
    have hjl : j < W.length := by omega
    have hn : IntKind.i64.wrap ((j : Int) + 1) = ((j + 1 : Nat) : Int) := by rw [i64id (by omega) (by omega)]; omega
    have e1 : W.getD j (0, 0, ByteArray.empty, []) = W[j] := by simp [List.getD, hjl]
    rw [Le_law08_mixed_6]
    unfold ltree_law08_mixed_6
    rw [cd_t (by omega), cd_t (by omega), cd_t (by omega), hn, Int.toNat_natCast, e1, List.drop_eq_getElem_cons hjl, List.any_cons]
    simp only [cond_eqi, cond_nei, cond_decide]
    have step : ∀ b, L_law08_mixed_6 (s, safe, W, at_, (k : Int), b, ((j + 1 : Nat) : Int), ()) () = some ((s, safe, W, at_, (k : Int), b || (W.drop (j + 1)).any (okW s at_ (k : Int)), ()), ()) :=
      fun b => mixed_loop6 hk hW d (j + 1) b (by omega)
    by_cases h1 : W[j].2.1 = at_
    · rw [if_pos h1]
      by_cases h2 : (W[j].2.2.1.size : Int) = s.size
      · rw [if_pos h2, if_pos (show (0 : Int) ≤ k by omega), if_pos (show (k : Int) < W[j].2.2.1.size by omega), if_pos (show (0 : Int) ≤ k by omega), if_pos (show (k : Int) < s.size by omega)]
        by_cases h3 : strAt W[j].2.2.1 (k : Int) = strAt s (k : Int)
        · rw [if_pos h3, step, step, show okW s at_ (k : Int) W[j] = true from decide_eq_true ⟨h1, h2, h3⟩]
          cases ok <;> simp [h2]
        · rw [if_neg h3, step, show okW s at_ (k : Int) W[j] = false from decide_eq_false fun h => h3 h.2.2, Bool.false_or]
      · rw [if_neg h2, step, step, show okW s at_ (k : Int) W[j] = false from decide_eq_false fun h => h2 h.2.1, Bool.false_or]
        cases ok <;> simp [h2]
    · rw [if_neg h1, step, show okW s at_ (k : Int) W[j] = false from decide_eq_false fun h => h1 h.1, Bool.false_or]

theorem mixed_loop2 {s safe : ByteArray} {W : List ActR} {at_ : Int} (hs : s.size ≤ 1000) (hf : safe.size = s.size) (hW : W.length ≤ 1000)
    (h : ∀ k : Nat, k < s.size → strAt s (k : Int) = strAt safe (k : Int) ∨ ∃ w, w ∈ W ∧ okW s at_ (k : Int) w = true) : ∀ (d k : Nat), k + d = s.size →
    L_law08_mixed_2 (s, safe, W, at_, (k : Int), ()) () = some (.inr ((), ()))
  | 0, k, hk => by
    rw [Le_law08_mixed_2]
    unfold ltree_law08_mixed_2
    rw [cd_f (by omega)]
  | d + 1, k, hk => by
    rw [Le_law08_mixed_2]
    unfold ltree_law08_mixed_2
    have hl := mixed_loop6 (s := s) (safe := safe) (W := W) (at_ := at_) (k := k) (by omega) hW W.length 0 (strAt s (k : Int) == strAt safe (k : Int)) (by omega)
    rw [show ((0 : Nat) : Int) = 0 from rfl, List.drop_zero] at hl
    rw [cd_t (by omega), cd_t (by omega), cd_t (by omega), cd_t (by omega), cd_t (by omega), hl]
    simp only [Option.bind_some]
    have e : ((strAt s (k : Int) == strAt safe (k : Int)) || W.any (okW s at_ (k : Int))) = true := by
      rcases h k (by omega) with h1 | h1
      · rw [h1, beq_self_eq_true, Bool.true_or]
      · rw [List.any_eq_true.2 h1, Bool.or_true]
    rw [e, i64id (by omega) (by omega), show ((k : Int) + 1) = ((k + 1 : Nat) : Int) by omega]
    exact mixed_loop2 hs hf hW h d (k + 1) (by omega)

theorem e_mixed {s safe : ByteArray} {W : List ActR} {at_ : Int} (hs : s.size ≤ 1000) (hf : safe.size = s.size) (hW : W.length ≤ 1000)
    (h : ∀ k : Nat, k < s.size → strAt s (k : Int) = strAt safe (k : Int) ∨ ∃ w, w ∈ W ∧ okW s at_ (k : Int) w = true) : F_law08_mixed (s, safe, W, at_, ()) () = some (true, ()) := by
  rw [Fe_law08_mixed]
  unfold tree_law08_mixed
  have := mixed_loop2 hs hf hW h s.size 0 (by omega)
  rw [show ((0 : Nat) : Int) = 0 from rfl] at this
  rw [this]
  rfl

/-- The pending writes, as acts. -/
def pendR (P : List W2) : List ActR := P.map fun p => (0, p.1, p.2, [])
theorem pendR_len (P : List W2) : (pendR P).length = P.length := by simp [pendR]
theorem pendR_snoc (P : List W2) (p : W2) : pendR (P ++ [p]) = pendR P ++ [(0, p.1, p.2, [])] := by simp [pendR]
theorem pendR_get (P : List W2) {k : Nat} (h : k < P.length) : (pendR P).getD k (0, 0, ByteArray.empty, []) = (0, P[k].1, P[k].2, []) := by simp [pendR, List.getD, h]

theorem Safe_loop7 {n size : Int} {l l' : List ActR} {keep : List Int} {S : List ByteArray} (hn : (S.length : Int) = n) (h2 : n ≤ 256) : ∀ (d k : Nat), (k : Int) + d = n →
    L_law08_DiskSafe_7 (l', keep, (k : Int), ()) (S.take k, (n, size, l, ()), (size, ()), S, [], ()) = some ((l', keep, ()), (S, (n, size, l, ()), (size, ()), S, [], ()))
  | 0, k, hk => by
    rw [Le_law08_DiskSafe_7]
    unfold ltree_law08_DiskSafe_7
    rw [cd_f (by omega), List.take_of_length_le (by omega)]
  | d + 1, k, hk => by
    have hkl : k < S.length := by omega
    have hin : 0 ≤ (k : Int) ∧ (k : Int) < (S.length : Int) := by omega
    rw [Le_law08_DiskSafe_7]
    unfold ltree_law08_DiskSafe_7
    rw [cd_t (by omega), e_Safe]
    simp only [Option.bind_some]
    rw [cd_t (by rw [List.length_take]; omega), i64id (by omega) (by omega), List.nil_append, show ((k : Int) + 1) = ((k + 1 : Nat) : Int) by omega]
    have e1 : S.take k ++ [(safeS S (k : Int)).1] = S.take (k + 1) := by
      unfold safeS
      rw [if_pos hin, Int.toNat_natCast, List.take_succ_eq_append_getElem hkl]
      simp [List.getD, hkl]
    rw [e1]
    exact Safe_loop7 hn h2 d (k + 1) (by omega)

theorem Safe_loop13 {n size : Int} {l l' : List ActR} {keep : List Int} {S B : List ByteArray} : ∀ (d k : Nat) (P : List W2), DInv size S P → P.length ≤ k → k + d = (l'.take 50).length →
    ∃ P', DInv size S P' ∧ P'.length ≤ 50 ∧ L_law08_DiskSafe_13 (l', keep, (k : Int), ()) (B, pendR P, P, (n, size, l, ()), (size, ()), S, ()) = some ((keep, ()), (B, pendR P', P', (n, size, l, ()), (size, ()), S, ()))
  | 0, k, P, h, hp, hk => by
    refine ⟨P, h, by rw [List.length_take] at hk; omega, ?_⟩
    rw [Le_law08_DiskSafe_13]
    unfold ltree_law08_DiskSafe_13
    rw [List.length_take] at hk
    simp only [cond_decide]
    by_cases h1 : (k : Int) < l'.length
    · rw [if_pos h1, if_neg (show ¬ (k : Int) < 50 by omega)]
    · rw [if_neg h1]
  | d + 1, k, P, h, hp, hk => by
    have hk2 := hk
    rw [List.length_take] at hk2
    rw [Le_law08_DiskSafe_13]
    unfold ltree_law08_DiskSafe_13
    rw [cd_t (by omega), cd_t (by omega), cd_t (by omega), cd_t (by omega), cd_t (by omega), cd_t (by omega), e_Write h]
    simp only [Option.bind_some]
    rw [i64id (by omega) (by omega), show ((k : Int) + 1) = ((k + 1 : Nat) : Int) by omega]
    generalize hw : l'.getD (k : Int).toNat (0, 0, ByteArray.empty, []) = w
    by_cases hm : mayW size S w.2.1 w.2.2.1 = true
    · have h1 := h.write hm (by omega)
      rw [if_pos hm, hm, cond_true, cd_t (by omega), cd_t (by omega), e_Read h1.few]
      simp only [Option.bind_some]
      rw [cd_t (by omega), cd_t (by omega), cd_t (by rw [pendR_len]; omega), List.nil_append]
      have e1 : (readS S (P ++ [(w.2.1, padW size w.2.2.1)]) w.2.1).1 = padW size w.2.2.1 := by
        unfold readS
        rw [lastW_snoc, if_pos rfl]
      rw [e1]
      have := pendR_snoc P (w.2.1, padW size w.2.2.1)
      dsimp only at this
      rw [← this]
      exact Safe_loop13 d (k + 1) _ h1 (by rw [List.length_append, List.length_singleton]; omega) (by omega)
    · rw [if_neg hm, eq_false_of_ne_true hm, cond_false]
      exact Safe_loop13 d (k + 1) _ h (by omega) (by omega)

theorem Safe_loop22 {n size : Int} {l : List ActR} {S : List ByteArray} {P : List W2} {c : Nat → Nat} (h : DInv size S P) (hc : ∀ k, (c k : Int) ≤ size) (hn : (S.length : Int) = n) (hP : P.length ≤ 50) : ∀ (d k : Nat), (k : Int) + d = n →
    L_law08_DiskSafe_22 ((k : Int), ()) (S, pendR P, (n, size, l, ()), (size, ()), keepS c 0 S P, [], ()) = some (.inr ((), ((size, ()), keepS c 0 S P, [], ())))
  | 0, k, hk => by
    rw [Le_law08_DiskSafe_22]
    unfold ltree_law08_DiskSafe_22
    rw [cd_f (by omega)]
  | d + 1, k, hk => by
    have h2 := h.n2
    have hi := h.hi
    have hK := h.keep hc
    have hl : (keepS c 0 S P).length = S.length := keepS_len _ _ _ _
    have hin : 0 ≤ (k : Int) ∧ (k : Int) < ((keepS c 0 S P).length : Int) := by omega
    have e1 : readS (keepS c 0 S P) [] (k : Int) = ((keepS c 0 S P).getD k ByteArray.empty, true) := by
      show safeS (keepS c 0 S P) (k : Int) = _
      unfold safeS
      rw [if_pos hin, Int.toNat_natCast]
    have s1 := hK.sz _ (getD_mem (l := keepS c 0 S P) (i := k) (d := ByteArray.empty) (by omega))
    have s2 := h.sz _ (getD_mem (l := S) (i := k) (d := ByteArray.empty) (by omega))
    rw [Le_law08_DiskSafe_22]
    unfold ltree_law08_DiskSafe_22
    rw [cd_t (by omega), e_Read hK.few, e1]
    simp only [Option.bind_some, Bool.not_true, cond_false]
    rw [cond_nei, if_pos s1, cd_t (by omega), cd_t (by omega), Nat.zero_add, Int.toNat_natCast]
    rw [e_mixed (by omega) (by omega) (by rw [pendR_len]; omega)]
    · simp only [Option.bind_some, Bool.not_true, cond_false]
      rw [i64id (by omega) (by omega), show ((k : Int) + 1) = ((k + 1 : Nat) : Int) by omega]
      exact Safe_loop22 h hc hn hP d (k + 1) (by omega)
    · intro j hj
      rcases keepS_byte hc P 0 S h.sz h.pd k j (by omega) (by omega) with h3 | ⟨p, hp, h4, h5⟩
      · exact Or.inl h3
      · refine Or.inr ⟨(0, p.1, p.2, []), List.mem_map.2 ⟨p, hp, rfl⟩, decide_eq_true ⟨h4, ?_, h5⟩⟩
        have := (h.pd p hp).2.2
        dsimp only
        omega

theorem p_Safe {n size : Int} {l l' : List ActR} {keep : List Int} : F_law08_DiskSafe ((n, size, l, ()), l', keep, ()) () = some (true, ()) := by
  rw [Fe_law08_DiskSafe]
  unfold tree_law08_DiskSafe
  by_cases hok : okN n size
  · rw [e_made hok, e_fixed]
    obtain ⟨hd, hn, hp⟩ := made_DInv (l := l) hok
    simp only [Option.bind_some, Sum.elim_inr, Bool.not_true, cond_false]
    rw [e_Flush hd]
    simp only [Option.bind_some]
    have hf : DInv size (flushS size (madeS n size l).1 (madeS n size l).2) [] := hd.keep fun _ => clampN hd.size0
    have hl : (flushS size (madeS n size l).1 (madeS n size l).2).length = (madeS n size l).1.length := keepS_len _ _ _ _
    unfold flushS at hf hl
    revert hf hl
    generalize keepS (fun _ => (clampS size size).toNat) 0 (madeS n size l).1 (madeS n size l).2 = S
    intro hf hl
    have hk := hok.2.1
    have h1 := hok.1
    have l7 := Safe_loop7 (n := n) (size := size) (l := l) (l' := l') (keep := keep) (S := S) (by omega) hk n.toNat 0 (by omega)
    rw [show ((0 : Nat) : Int) = 0 from rfl, List.take_zero] at l7
    rw [l7]
    simp only [Option.bind_some]
    obtain ⟨P, hP, hP2, l13⟩ := Safe_loop13 (n := n) (size := size) (l := l) (l' := l') (keep := keep) (S := S) (B := S) (l'.take 50).length 0 [] hf (by simp) (by omega)
    rw [show ((0 : Nat) : Int) = 0 from rfl, show pendR [] = [] from rfl] at l13
    rw [l13]
    simp only [Option.bind_some]
    rw [e_Pending]
    simp only [Option.bind_some]
    rw [pendR_len, cond_nei, if_pos rfl, e_Crash hP]
    simp only [Option.bind_some]
    have l22 := Safe_loop22 (n := n) (l := l) (c := fun k => (clampS size (keep.getD k 0)).toNat) hP (fun _ => clampN hd.size0) (by omega) hP2 n.toNat 0 (by omega)
    rw [show ((0 : Nat) : Int) = 0 from rfl] at l22
    rw [l22]
    simp only [Option.bind_some, Sum.elim_inr]
    rw [e_Pending]
    rfl
  · rw [e_made_no hok, e_fixed]
    rfl

theorem plain_Safe (x : args_law08_DiskSafe.T) : F_law08_DiskSafe x () = some (true, ()) := by
  obtain ⟨⟨n, size, l, _⟩, l', keep, _⟩ := x
  exact p_Safe
end Go.Proofs.Ytgfanlafbjbkaaa.S2
