/- Saves, one behind the other. -/
import Derived.Test.YtgfanlafbjbkaaaGLSlotCounts
import Derived.Test.YtgfanlafbjbkaaaP09
set_option linter.unusedVariables false
set_option linter.unusedSimpArgs false
namespace Go.Proofs.Ytgfanlafbjbkaaa.S2
open Go

theorem newS_which (s t : ByteArray) : (newS 0 1 s t).1 = 0 ∨ (newS 0 1 s t).1 = 1 := by
  unfold newS
  split
  · exact .inr rfl
  · split
    · exact .inl rfl
    · exact .inr rfl

theorem newS_max (s t : ByteArray) : ((unfS s).2.2 = true → (unfS s).1 ≤ (newS 0 1 s t).2.1) ∧ ((unfS t).2.2 = true → (unfS t).1 ≤ (newS 0 1 s t).2.1) := by
  unfold newS
  cases h1 : (unfS t).2.2 <;> cases h2 : (unfS s).2.2 <;> simp
  split <;> dsimp only <;> omega

theorem newS_w0 {f t : ByteArray} {n : Int} {u : ByteArray} (hf : unfS f = (n, u, true)) (ht : (unfS t).2.2 = true → (unfS t).1 ≤ n) : newS 0 1 f t = (0, n, u) := by
  unfold newS
  rw [hf]
  rw [if_neg, if_pos rfl]
  rintro ⟨h1, h2⟩
  have := ht h1
  dsimp only at h2
  rcases h2 with h2 | h2
  · cases h2
  · omega

theorem newS_w1 {f s : ByteArray} {n : Int} {u : ByteArray} (hf : unfS f = (n, u, true)) (hs : (unfS s).2.2 = true → (unfS s).1 < n) : newS 0 1 s f = (1, n, u) := by
  unfold newS
  rw [hf]
  rw [if_pos]
  refine ⟨rfl, ?_⟩
  cases h : (unfS s).2.2
  · exact .inl rfl
  · exact .inr (hs h)

/-- A disk of two sectors of 40 bytes. -/
theorem two_D {s0 s1 : ByteArray} (h0 : (s0.size : Int) = 40) (h1 : (s1.size : Int) = 40) : DInv 40 [s0, s1] [] :=
  ⟨by decide, by decide, by simp, fun s hs => by simp at hs; rcases hs with rfl | rfl <;> assumption, fun p hp => (by cases hp), by simp⟩

theorem new2 (s0 s1 : ByteArray) : newD [s0, s1] [] 0 1 = newS 0 1 s0 s1 := rfl

theorem ok40 {n : Int} {t : ByteArray} (hn : 0 ≤ n) : okF (n + 1) t 40 ↔ t.size ≤ 22 := by
  unfold okF
  constructor
  · intro h; have := h.2.2.2; omega
  · intro h; exact ⟨by decide, by decide, by omega, by omega⟩

theorem beg2 {s0 s1 t : ByteArray} (hn : (newS 0 1 s0 s1).2.1 < 18446744073709551615) :
    begD 40 [s0, s1] [] 0 1 t = if t.size ≤ 22 then some (if (newS 0 1 s0 s1).1 = 0 then 1 else 0, frameB ((newS 0 1 s0 s1).2.1 + 1) t 40) else none := by
  have h0 := (newS_lt 0 1 s0 s1).1
  unfold begD
  rw [new2]
  by_cases h : t.size ≤ 22
  · rw [if_pos h, if_pos ⟨by simp, by omega, (ok40 h0).2 h⟩]
  · rw [if_neg h, if_neg (fun hh => h ((ok40 h0).1 hh.2.2))]

theorem lay0 (c : Nat → Nat) (f s0 s1 : ByteArray) : keepS c 0 [s0, s1] [(0, f)] = [f.extract 0 (c 0) ++ s0.extract (c 0) s0.size, s1] := rfl

theorem lay1 (c : Nat → Nat) (f s0 s1 : ByteArray) : keepS c 0 [s0, s1] [(1, f)] = [s0, f.extract 0 (c 0) ++ s1.extract (c 0) s1.size] := rfl

theorem mix_all {f s : ByteArray} (hf : (f.size : Int) = 40) (hs : (s.size : Int) = 40) : f.extract 0 40 ++ s.extract 40 s.size = f := by
  rw [ext_all (by omega), ext_none (by omega)]
  apply bs_inj
  rw [bs_append]
  simp [bs]

theorem fl0 {f s0 s1 : ByteArray} (hf : (f.size : Int) = 40) (h0 : (s0.size : Int) = 40) : flushS 40 [s0, s1] [(0, f)] = [f, s1] := by
  unfold flushS
  rw [lay0, clamp_self (by decide)]
  show [f.extract 0 40 ++ s0.extract 40 s0.size, s1] = _
  rw [mix_all hf h0]

theorem fl1 {f s0 s1 : ByteArray} (hf : (f.size : Int) = 40) (h1 : (s1.size : Int) = 40) : flushS 40 [s0, s1] [(1, f)] = [s0, f] := by
  unfold flushS
  rw [lay1, clamp_self (by decide)]
  show [s0, f.extract 0 40 ++ s1.extract 40 s1.size] = _
  rw [mix_all hf h1]

/-- A save, whatever stands there. -/
theorem save_any {s0 s1 t : ByteArray} (h0 : (s0.size : Int) = 40) (h1 : (s1.size : Int) = 40) (hn : (newS 0 1 s0 s1).2.1 < 18446744073709551615) :
    ∃ r0 r1 : ByteArray, F_slot_Save (0, 1, t, ()) ((40, ()), [s0, s1], [], ()) = some (decide (t.size ≤ 22), ((40, ()), [r0, r1], (), [], ())) ∧ (r0.size : Int) = 40 ∧ (r1.size : Int) = 40 ∧
      (t.size ≤ 22 → (newS 0 1 r0 r1).2 = ((newS 0 1 s0 s1).2.1 + 1, t) ∧ ((r0 = frameB ((newS 0 1 s0 s1).2.1 + 1) t 40 ∧ r1 = s1) ∨ (r0 = s0 ∧ r1 = frameB ((newS 0 1 s0 s1).2.1 + 1) t 40))) ∧ (¬ t.size ≤ 22 → r0 = s0 ∧ r1 = s1) := by
  have hl := newS_lt 0 1 s0 s1
  have hm := newS_max s0 s1
  by_cases h : t.size ≤ 22
  · have hok := (ok40 (t := t) hl.1).2 h
    have hf := frameB_size hok
    have hu := unf_frame hok (by omega) (by omega)
    rw [e_Save (two_D h0 h1) (by simp), beg2 hn, if_pos h]
    simp only [Option.isSome_some, if_true, List.nil_append, Option.toList_some]
    rcases newS_which s0 s1 with hw | hw
    · rw [if_pos hw, fl1 hf h1, decide_eq_true h]
      refine ⟨s0, _, rfl, h0, hf, fun _ => ⟨?_, .inr ⟨rfl, rfl⟩⟩, fun hh => absurd h hh⟩
      rw [newS_w1 hu (fun hv => by have := hm.1 hv; omega)]
    · rw [if_neg (by rw [hw]; decide), fl0 hf h0, decide_eq_true h]
      refine ⟨_, s1, rfl, hf, h1, fun _ => ⟨?_, .inl ⟨rfl, rfl⟩⟩, fun hh => absurd h hh⟩
      rw [newS_w0 hu (fun hv => by have := hm.2 hv; omega)]
  · rw [e_Save (two_D h0 h1) (by simp), beg2 hn, if_neg h, decide_eq_false h]
    exact ⟨s0, s1, rfl, h0, h1, fun hh => absurd hh h, fun _ => ⟨rfl, rfl⟩⟩

/-- Two sectors, each framed or all 0, what is the newest. -/
structure Slot2 (S : List ByteArray) (n : Int) (last : ByteArray) : Prop where
  ex : ∃ s0 s1 n0 t0 n1 t1, S = [s0, s1] ∧ Sect 40 s0 n0 t0 ∧ Sect 40 s1 n1 t1 ∧ n0 ≤ n ∧ n1 ≤ n ∧ (newS 0 1 s0 s1).2 = (n, last)

theorem slot2_new : Slot2 (List.replicate (2 : Int).toNat (zerosB (40 : Int).toNat)) 0 ByteArray.empty := by
  have hz := sect_zero (size := 40) (by decide) (by decide) ByteArray.empty
  refine ⟨_, _, 0, ByteArray.empty, 0, ByteArray.empty, rfl, hz, hz, by decide, by decide, ?_⟩
  have hs := hz.says
  unfold newS
  rw [hs]
  rfl

theorem slot2_save {S : List ByteArray} {n : Int} {last t : ByteArray} (h : Slot2 S n last) (hn : n < 18446744073709551615) : ∃ S', F_slot_Save (0, 1, t, ()) ((40, ()), S, [], ()) = some (decide (t.size ≤ 22), ((40, ()), S', (), [], ())) ∧
    Slot2 S' (if t.size ≤ 22 then n + 1 else n) (if t.size ≤ 22 then t else last) := by
  obtain ⟨s0, s1, n0, t0, n1, t1, rfl, k0, k1, l0, l1, hw⟩ := h
  have hw1 : (newS 0 1 s0 s1).2.1 = n := by rw [hw]
  obtain ⟨r0, r1, hs, z0, z1, ha, hb⟩ := save_any (t := t) k0.sz k1.sz (by omega)
  refine ⟨_, hs, ?_⟩
  have hl := newS_lt 0 1 s0 s1
  rw [hw1] at ha hl
  by_cases h : t.size ≤ 22
  · rw [if_pos h, if_pos h]
    obtain ⟨h1, h2⟩ := ha h
    have hfr := sect_frame ((ok40 (t := t) hl.1).2 h) (by omega) (by omega)
    rcases h2 with ⟨rfl, rfl⟩ | ⟨rfl, rfl⟩
    · exact ⟨_, _, _, _, _, _, rfl, hfr, k1, Int.le_refl _, by omega, h1⟩
    · exact ⟨_, _, _, _, _, _, rfl, k0, hfr, by omega, Int.le_refl _, h1⟩
  · rw [if_neg h, if_neg h]
    obtain ⟨rfl, rfl⟩ := hb h
    exact ⟨_, _, _, _, _, _, rfl, k0, k1, l0, l1, hw⟩

theorem slot2_load {S : List ByteArray} {n : Int} {last : ByteArray} (h : Slot2 S n last) : F_slot_Load (0, 1, ()) ((40, ()), S, [], ()) = some ((n, last, ()), ()) := by
  obtain ⟨s0, s1, n0, t0, n1, t1, rfl, k0, k1, l0, l1, hw⟩ := h
  rw [e_Load (by simp), new2, hw]

theorem Counts_loop {l : List ByteArray} : ∀ (d i : Nat) (S : List ByteArray) (n : Int) (last : ByteArray), Slot2 S n last → n ≤ i → i + d = (l.take 40).length →
    L_law09_SlotCounts_6 (l, last, n, (i : Int), ()) ([], (40, ()), S, ()) = some (.inr ((), ()))
  | 0, i, S, n, last, h, hn, hd => by
    rw [Le_law09_SlotCounts_6]
    unfold ltree_law09_SlotCounts_6
    rw [List.length_take] at hd
    simp only [cond_decide]
    by_cases h1 : (i : Int) < l.length
    · rw [if_pos h1, if_neg (by omega)]
    · rw [if_neg h1]
  | d + 1, i, S, n, last, h, hn, hd => by
    rw [Le_law09_SlotCounts_6]
    unfold ltree_law09_SlotCounts_6
    have hd' := hd
    rw [List.length_take] at hd
    have hi : (i : Int) < l.length := by omega
    have hi4 : (i : Int) < 40 := by omega
    have hi0 : (0 : Int) ≤ i := by omega
    obtain ⟨S', hs, h'⟩ := slot2_save (t := l.getD i ByteArray.empty) h (by omega)
    have hn0 : 0 ≤ n := by
      obtain ⟨s0, s1, n0, t0, n1, t1, rfl, k0, k1, l0, l1, hw⟩ := h
      have := k0.n0
      omega
    simp only [cd_t hi, cd_t hi4, cd_t hi0, Int.toNat_natCast]
    rw [hs]
    simp only [Option.bind_some]
    rw [show decide (((l.getD i ByteArray.empty).size : Int) ≤ 22) = decide ((l.getD i ByteArray.empty).size ≤ 22) by rw [Bool.eq_iff_iff]; simp; omega]
    simp only [bne_self_eq_false, cond_false]
    rw [slot2_load h']
    simp only [Option.bind_some, cond_decide]
    rw [u64id (n := n + 1) (by omega) (by omega), i64id (n := (i : Int) + 1) (by omega) (by omega), show ((i : Int) + 1) = ((i + 1 : Nat) : Int) by omega]
    by_cases hz : (l.getD i ByteArray.empty).size ≤ 22
    · simp only [if_pos hz] at h' ⊢
      rw [bytes_self]
      simp only [bne_self_eq_false, cond_false, Bool.not_true]
      exact Counts_loop d (i + 1) S' (n + 1) _ h' (by omega) (by omega)
    · simp only [if_neg hz] at h' ⊢
      rw [bytes_self]
      simp only [bne_self_eq_false, cond_false, Bool.not_true]
      exact Counts_loop d (i + 1) S' n _ h' (by omega) (by omega)

theorem p_Counts {l : List ByteArray} : F_law09_SlotCounts (l, ()) () = some (true, ()) := by
  rw [Fe_law09_SlotCounts]
  unfold tree_law09_SlotCounts
  rw [e_New (show okN 2 40 by decide)]
  simp only [Option.bind_some, Sum.elim_inr]
  rw [e_fixed9]
  simp only [Option.bind_some, Bool.not_true, cond_false]
  have := Counts_loop (l := l) (l.take 40).length 0 _ 0 ByteArray.empty slot2_new (by decide) (by omega)
  rw [show ((0 : Nat) : Int) = 0 from rfl] at this
  rw [this]
  rfl

theorem plain_Counts (x : args_law09_SlotCounts.T) : F_law09_SlotCounts x () = some (true, ()) := by
  obtain ⟨l, _⟩ := x
  exact p_Counts

end Go.Proofs.Ytgfanlafbjbkaaa.S2
