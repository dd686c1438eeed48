/- What a flush leaves; two writes that change places; a torn one. -/
import Derived.Test.YtgfanlafbjbkaaaQ2
set_option linter.unusedVariables false
set_option linter.unusedSimpArgs false
namespace Go.Proofs.Ytgfanlafbjbkaaa.S2
open Go

theorem ext_all {b : ByteArray} {c : Nat} (h : b.size = c) : b.extract 0 c = b := by subst h; exact ByteArray.extract_zero_size
theorem ext_none {b : ByteArray} {c : Nat} (h : b.size ≤ c) : b.extract c b.size = ByteArray.empty := by
  rw [← ByteArray.size_eq_zero_iff, ByteArray.size_extract]
  omega

theorem getD_set {α : Type} (l : List α) (i j : Nat) (x d : α) (h : j < l.length) : (l.set j x).getD i d = if j = i then x else l.getD i d := by
  rw [List.getD_eq_getElem?_getD, List.getD_eq_getElem?_getD, List.getElem?_set]
  by_cases hij : j = i
  · rw [if_pos hij, if_pos hij, if_pos h]; rfl
  · rw [if_neg hij, if_neg hij]

theorem lastW_cons (p : W2) (l : List W2) (at_ : Int) : lastW (p :: l) at_ = match lastW l at_ with | some t => some t | none => if p.1 = at_ then some p.2 else none := by
  unfold lastW
  rw [List.reverse_cons, List.find?_append]
  cases l.reverse.find? fun q => q.1 == at_ with
  | some q => rfl
  | none =>
    by_cases h : p.1 = at_
    · simp [h]
    · simp [h, beq_false_of_ne h]

theorem layW_at {size : Int} {c : Nat} {safe : List ByteArray} {p : W2} (hp : 0 ≤ p.1 ∧ p.1 < safe.length) (i : Nat) : (layW c safe p).getD i ByteArray.empty =
    if p.1.toNat = i then p.2.extract 0 c ++ (safe.getD p.1.toNat ByteArray.empty).extract c (safe.getD p.1.toNat ByteArray.empty).size else safe.getD i ByteArray.empty := by
  unfold layW
  exact getD_set _ _ _ _ _ (by omega)

theorem keep_full {size : Int} {c : Nat → Nat} (hc : ∀ k, (c k : Int) = size) : ∀ (l : List W2) (k : Nat) (safe : List ByteArray),
    (∀ s, s ∈ safe → (s.size : Int) = size) → (∀ p, p ∈ l → 0 ≤ p.1 ∧ p.1 < safe.length ∧ (p.2.size : Int) = size) → ∀ i : Nat, i < safe.length →
    (keepS c k safe l).getD i ByteArray.empty = match lastW l (i : Int) with | some t => t | none => safe.getD i ByteArray.empty
  | [], k, safe, hs, hp, i, hi => rfl
  | p :: l, k, safe, hs, hp, i, hi => by
    have h1 := hp p List.mem_cons_self
    show (keepS c (k + 1) (layW (c k) safe p) l).getD i ByteArray.empty = _
    rw [keep_full hc l (k + 1) (layW (c k) safe p) (layW_sz (by have := hc k; omega) hs h1) (fun q hq => by rw [layW_len]; exact hp q (List.mem_cons_of_mem _ hq)) i (by rw [layW_len]; exact hi), lastW_cons]
    cases lastW l (i : Int) with
    | some t => rfl
    | none =>
      dsimp only
      have h2 := hs _ (getD_mem (l := safe) (i := p.1.toNat) (d := ByteArray.empty) (by omega))
      have h3 := hc k
      rw [layW_at (size := size) ⟨h1.1, h1.2.1⟩, ext_all (b := p.2) (by omega), ext_none (by omega), ByteArray.append_empty]
      by_cases hpi : p.1 = (i : Int)
      · rw [if_pos hpi, if_pos (by omega)]
      · rw [if_neg hpi, if_neg (by omega)]

theorem clamp_self {size : Int} (h : 0 ≤ size) : clampS size size = size := by
  unfold clampS
  rw [if_neg (show ¬ (0 : Int) > size by omega), if_neg (show ¬ size < size by omega)]

/-- Flushed. -/
def flushS (size : Int) (safe : List ByteArray) (pend : List W2) : List ByteArray := keepS (fun _ => (clampS size size).toNat) 0 safe pend

theorem flush_at {size : Int} {safe : List ByteArray} {pend : List W2} (h : DInv size safe pend) (at_ : Int) : safeS (flushS size safe pend) at_ = if 0 ≤ at_ ∧ at_ < safe.length then ((readS safe pend at_).1, true) else (ByteArray.empty, false) := by
  unfold safeS
  have hl : (flushS size safe pend).length = safe.length := keepS_len _ _ _ _
  rw [hl]
  by_cases hr : 0 ≤ at_ ∧ at_ < safe.length
  · rw [if_pos hr, if_pos hr]
    have h1 := keep_full (size := size) (c := fun _ => (clampS size size).toNat) (fun k => by have := h.size0; rw [clamp_self this]; omega) pend 0 safe h.sz h.pd at_.toNat (by omega)
    unfold flushS
    rw [h1, show ((at_.toNat : Nat) : Int) = at_ by omega]
    unfold readS
    cases lastW pend at_ with
    | some t => rfl
    | none => unfold safeS; rw [if_pos hr]
  · rw [if_neg hr, if_neg hr]

abbrev wrS (size : Int) (safe : List ByteArray) (pend : List W2) (at_ : Int) (t : ByteArray) : List W2 := if mayW size safe at_ t = true then pend ++ [(at_, padW size t)] else pend

theorem wr_DInv {size at_ : Int} {safe : List ByteArray} {pend : List W2} {t : ByteArray} (h : DInv size safe pend) (hl : pend.length < 1000000) : DInv size safe (wrS size safe pend at_ t) := by
  unfold wrS
  by_cases hm : mayW size safe at_ t = true
  · rw [if_pos hm]; exact h.write hm hl
  · rw [if_neg hm]; exact h
theorem wr_len {size at_ : Int} {safe : List ByteArray} {pend : List W2} {t : ByteArray} : (wrS size safe pend at_ t).length ≤ pend.length + 1 := by
  unfold wrS
  split <;> simp

theorem wr_swap {size a1 a2 : Int} {safe : List ByteArray} {pend : List W2} {t1 t2 : ByteArray} (h : a1 ≠ a2) (i : Int) :
    readS safe (wrS size safe (wrS size safe pend a1 t1) a2 t2) i = readS safe (wrS size safe (wrS size safe pend a2 t2) a1 t1) i := by
  have : lastW (wrS size safe (wrS size safe pend a1 t1) a2 t2) i = lastW (wrS size safe (wrS size safe pend a2 t2) a1 t1) i := by
    unfold wrS
    by_cases h1 : mayW size safe a1 t1 = true
    · by_cases h2 : mayW size safe a2 t2 = true
      · simp only [if_pos h1, if_pos h2, lastW_snoc]
        by_cases e1 : a1 = i
        · rw [if_pos e1, if_neg (fun e2 => h (e1.trans e2.symm)), if_pos e1]
        · rw [if_neg e1, if_neg e1]
      · simp only [if_pos h1, if_neg h2]
    · by_cases h2 : mayW size safe a2 t2 = true
      · simp only [if_neg h1, if_pos h2]
      · simp only [if_neg h1, if_neg h2]
  unfold readS
  rw [this]

theorem Turned_loop {n size : Int} {l : List ActR} {a1 a2 c1 c2 s1 s2 : Int} {t1 t2 : ByteArray} {S T : List ByteArray} {P Q : List W2} (h : ∀ i, safeS S i = safeS T i) (hn : n ≤ 256) : ∀ (d k : Nat), (k : Int) + d = n →
    L_law08_DiskTurned_12 ((k : Int), ()) ((n, size, l, ()), (a1, t1, c1, ()), (a2, t2, c2, ()), (s1, ()), S, (s2, ()), T, P, Q, ()) = some (.inr ((), ()))
  | 0, k, hk => by
    rw [Le_law08_DiskTurned_12]
    unfold ltree_law08_DiskTurned_12
    rw [cd_f (by omega)]
  | d + 1, k, hk => by
    rw [Le_law08_DiskTurned_12]
    unfold ltree_law08_DiskTurned_12
    rw [cd_t (by omega), e_Safe, e_Safe, h]
    simp only [Option.bind_some, beq_self_eq_true, Bool.not_true, cond_false]
    rw [i64id (by omega) (by omega), show ((k : Int) + 1) = ((k + 1 : Nat) : Int) by omega]
    exact Turned_loop h hn d (k + 1) (by omega)

theorem p_Turned {n size : Int} {l : List ActR} {a1 a2 c1 c2 : Int} {t1 t2 : ByteArray} : F_law08_DiskTurned ((n, size, l, ()), (a1, t1, c1, ()), (a2, t2, c2, ()), ()) () = some (true, ()) := by
  rw [Fe_law08_DiskTurned]
  unfold tree_law08_DiskTurned
  by_cases hok : okN n size
  · rw [e_made hok, e_fixed]
    obtain ⟨hd, hn, hp⟩ := made_DInv (l := l) hok
    simp only [Option.bind_some, Sum.elim_inr, Bool.not_true, cond_false, cond_eqi]
    by_cases ha : a1 = a2
    · rw [if_pos ha]
    · rw [if_neg ha]
      have w1 := wr_DInv (at_ := a1) (t := t1) hd (by omega)
      have n1 := wr_len (size := size) (safe := (madeS n size l).1) (pend := (madeS n size l).2) (at_ := a1) (t := t1)
      have w2 := wr_DInv (at_ := a2) (t := t2) w1 (by omega)
      have v1 := wr_DInv (at_ := a2) (t := t2) hd (by omega)
      have m1 := wr_len (size := size) (safe := (madeS n size l).1) (pend := (madeS n size l).2) (at_ := a2) (t := t2)
      have v2 := wr_DInv (at_ := a1) (t := t1) v1 (by omega)
      rw [e_Write hd]
      simp only [Option.bind_some]
      rw [e_Write w1]
      simp only [Option.bind_some]
      rw [e_Write hd]
      simp only [Option.bind_some]
      rw [e_Write v1]
      simp only [Option.bind_some]
      rw [e_Flush w2]
      simp only [Option.bind_some]
      rw [e_Flush v2]
      simp only [Option.bind_some]
      have hk := hok.2.1
      have := Turned_loop (n := n) (size := size) (l := l) (a1 := a1) (a2 := a2) (c1 := c1) (c2 := c2) (t1 := t1) (t2 := t2) (s1 := size) (s2 := size) (P := []) (Q := []) (S := flushS size (madeS n size l).1 (wrS size (madeS n size l).1 (wrS size (madeS n size l).1 (madeS n size l).2 a1 t1) a2 t2))
        (T := flushS size (madeS n size l).1 (wrS size (madeS n size l).1 (wrS size (madeS n size l).1 (madeS n size l).2 a2 t2) a1 t1)) (fun i => by rw [flush_at w2, flush_at v2, wr_swap ha]) (by omega) n.toNat 0 (by have := hok.1; omega)
      rw [show ((0 : Nat) : Int) = 0 from rfl] at this
      unfold flushS at this
      rw [this]
      rfl
  · rw [e_made_no hok, e_fixed]
    rfl

theorem plain_Turned (x : args_law08_DiskTurned.T) : F_law08_DiskTurned x () = some (true, ()) := by
  obtain ⟨⟨n, size, l, _⟩, ⟨a1, t1, c1, _⟩, ⟨a2, t2, c2, _⟩, _⟩ := x
  exact p_Turned

theorem p_Torn {n size : Int} {l : List ActR} {at_ cut : Int} {t : ByteArray} : F_law08_DiskTorn ((n, size, l, ()), (at_, t, cut, ()), ()) () = some (true, ()) := by
  rw [Fe_law08_DiskTorn]
  unfold tree_law08_DiskTorn
  by_cases hok : okN n size
  · rw [e_made hok, e_fixed]
    obtain ⟨hd, hn, hp⟩ := made_DInv (l := l) hok
    simp only [Option.bind_some, Sum.elim_inr, Bool.not_true, cond_false]
    rw [e_Flush hd]
    simp only [Option.bind_some]
    have hf : DInv size (flushS size (madeS n size l).1 (madeS n size l).2) [] := hd.keep fun _ => clampN hd.size0
    have hl : (flushS size (madeS n size l).1 (madeS n size l).2).length = (madeS n size l).1.length := keepS_len _ _ _ _
    unfold flushS at hf hl
    revert hf hl
    generalize keepS (fun _ => (clampS size size).toNat) 0 (madeS n size l).1 (madeS n size l).2 = S
    intro hf hl
    rw [e_Safe, e_Write hf]
    simp only [Option.bind_some]
    unfold safeS
    have h32 := hf.lo
    have h512 := hf.hi
    by_cases hin : 0 ≤ at_ ∧ at_ < (S.length : Int)
    · simp only [if_pos hin, cond_true]
      by_cases hs : (t.size : Int) ≤ size
      · have hm : mayW size S at_ t = true := decide_eq_true ⟨hin, hs⟩
        have w1 := hf.write hm (by simp)
        rw [hm, decide_eq_true hs]
        simp only [bne_self_eq_false, cond_false, Bool.not_true, if_true]
        rw [e_Crash w1]
        simp only [Option.bind_some]
        have hk := w1.keep (c := fun k => (clampS size ((([] : List Int) ++ [cut]).getD k 0)).toNat) fun _ => clampN hd.size0
        rw [e_Read hk.few]
        simp only [Option.bind_some]
        rw [i64id (by omega) (by omega), e_Zeros (by omega) (by omega)]
        simp only [Option.bind_some]
        have hc : (if (if size < cut then size else cut) > 0 then if size < cut then size else cut else 0) = clampS size cut := by
          unfold clampS
          by_cases h1 : 0 > cut
          · rw [if_pos h1, if_neg (show ¬ size < cut by omega), if_neg (show ¬ cut > 0 by omega), if_neg (show ¬ size < 0 by omega)]
          · rw [if_neg h1]
            by_cases h2 : size < cut
            · rw [if_pos h2, if_pos (show size > 0 by omega)]
            · rw [if_neg h2]
              by_cases h3 : cut > 0
              · rw [if_pos h3]
              · rw [if_neg h3]; omega
        rw [hc]
        have hc2 := clampS_in (size := size) (x := cut) hd.size0
        have hpad : t ++ zerosB (size - (t.size : Int)).toNat = padW size t := rfl
        have hps := padW_size hs
        have hos := hf.sz _ (getD_mem (l := S) (i := at_.toNat) (d := ByteArray.empty) (by omega))
        rw [cd_t (by rw [zerosB_size]; omega), hpad, cd_t hc2.1, cd_t (by omega), cd_t hc2.1, cd_t (by omega), cd_t (by rw [ByteArray.size_extract, ByteArray.size_extract]; omega)]
        have e1 : keepS (fun k => (clampS size ((([] : List Int) ++ [cut]).getD k 0)).toNat) 0 S ([] ++ [(at_, padW size t)]) = layW (clampS size cut).toNat S (at_, padW size t) := rfl
        have e2 : (readS (layW (clampS size cut).toNat S (at_, padW size t)) [] at_).1 = (padW size t).extract 0 (clampS size cut).toNat ++ (S.getD at_.toNat ByteArray.empty).extract (clampS size cut).toNat (S.getD at_.toNat ByteArray.empty).size := by
          show (safeS (layW (clampS size cut).toNat S (at_, padW size t)) at_).1 = _
          unfold safeS
          rw [layW_len, if_pos hin]
          dsimp only
          rw [layW_at (size := size) hin, if_pos rfl]
        rw [e1, e2, beq_self_eq_true]
      · have hm : mayW size S at_ t = false := decide_eq_false fun h => hs h.2
        rw [hm, decide_eq_false hs]
        rfl
    · have hm : mayW size S at_ t = false := decide_eq_false fun h => hin h.1
      simp only [if_neg hin, hm]
      rfl
  · rw [e_made_no hok, e_fixed]
    rfl

theorem plain_Torn (x : args_law08_DiskTorn.T) : F_law08_DiskTorn x () = some (true, ()) := by
  obtain ⟨⟨n, size, l, _⟩, ⟨a1, t1, c1, _⟩, _⟩ := x
  exact p_Torn
end Go.Proofs.Ytgfanlafbjbkaaa.S2
