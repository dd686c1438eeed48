/- A save that a crash cuts short, behind any saves. -/
import Derived.Test.YtgfanlafbjbkaaaGLSlotKeeps
import Derived.Test.YtgfanlafbjbkaaaPSlotCounts
set_option linter.unusedVariables false
set_option linter.unusedSimpArgs false
namespace Go.Proofs.Ytgfanlafbjbkaaa.S2
open Go

theorem newS_inv0 {s t m : ByteArray} (h : (newS 0 1 s t).1 = 1) (hm : (unfS m).2.2 = false) : newS 0 1 m t = newS 0 1 s t := by
  unfold newS at h ⊢
  cases h1 : (unfS t).2.2 <;> cases h2 : (unfS s).2.2 <;> simp [h1, h2, hm] at h ⊢
  rcases Int.lt_or_le (unfS s).1 (unfS t).1 with hlt | hlt
  · exact hlt
  · rw [if_neg (by omega)] at h; cases h

theorem newS_inv1 {s t m : ByteArray} (h : (newS 0 1 s t).1 = 0) (hm : (unfS m).2.2 = false) : newS 0 1 s m = newS 0 1 s t := by
  unfold newS at h ⊢
  cases h1 : (unfS t).2.2 <;> cases h2 : (unfS s).2.2 <;> simp [h1, h2, hm] at h ⊢
  rcases Int.lt_or_le (unfS s).1 (unfS t).1 with hlt | hlt
  · rw [if_pos hlt] at h; cases h
  · exact hlt

theorem clamp_get {cut : Int} : (clampS 40 (([] ++ [cut] : List Int).getD 0 0)).toNat ≤ 40 ∧ (40 ≤ cut → (clampS 40 (([] ++ [cut] : List Int).getD 0 0)).toNat = 40) := by
  have := clampS_in (size := 40) (x := cut) (by decide)
  show (clampS 40 cut).toNat ≤ 40 ∧ (40 ≤ cut → (clampS 40 cut).toNat = 40)
  refine ⟨by omega, fun h => ?_⟩
  unfold clampS
  split <;> split <;> omega

theorem begin_crash {S : List ByteArray} {n cut : Int} {last text : ByteArray} (h : Slot2 S n last) (hn : n < 1000) : ∃ (r0 r1 : ByteArray) (m : Int) (s : ByteArray) (P : List W2),
    F_slot_Begin (0, 1, text, ()) ((40, ()), S, [], ()) = some (decide (text.size ≤ 22), ((40, ()), S, (), P, ())) ∧
    F_disk_Disk_Crash ([] ++ [cut], ()) ((40, ()), S, P, ()) = some ((), ((40, ()), [r0, r1], (), [], ())) ∧ (r0.size : Int) = 40 ∧ (r1.size : Int) = 40 ∧ (newS 0 1 r0 r1).2 = (m, s) ∧
    ((m = n ∧ s = last) ∨ (text.size ≤ 22 ∧ m = n + 1 ∧ s = text)) ∧ (text.size ≤ 22 → 40 ≤ cut → m = n + 1) := by
  obtain ⟨s0, s1, n0, t0, n1, t1, rfl, k0, k1, l0, l1, hw⟩ := h
  have hw1 : (newS 0 1 s0 s1).2.1 = n := by rw [hw]
  have hl := newS_lt 0 1 s0 s1
  have hD := two_D k0.sz k1.sz
  have hB := e_Begin (a := 0) (b := 1) (t := text) hD
  have hbd := beg_DInv (a := 0) (b := 1) (t := text) hD (by simp)
  have hC := e_Crash (keep := [] ++ [cut]) hbd
  have hb := beg2 (s0 := s0) (s1 := s1) (t := text) (by omega)
  have hc := clamp_get (cut := cut)
  have hx := newS_max s0 s1
  rw [hw1] at hb hx
  by_cases ht : text.size ≤ 22
  · rw [if_pos ht] at hb
    have hok := (ok40 (t := text) hl.1).2 ht
    rw [hw1] at hok hl
    have hf := frameB_size hok
    have hu := unf_frame hok (by omega) (by omega)
    have hfr := sect_frame hok (by omega) (by omega)
    rcases newS_which s0 s1 with hwh | hwh
    · rw [if_pos hwh] at hb
      rw [hb] at hB hC
      simp only [List.nil_append, Option.toList_some, Option.isSome_some] at hB hC
      rw [show ([cut] : List Int) = [] ++ [cut] from rfl, lay1] at hC
      refine ⟨s0, _, (newS 0 1 s0 _).2.1, (newS 0 1 s0 _).2.2, _, by rw [decide_eq_true ht]; exact hB, hC, k0.sz, ?_, rfl, ?_, ?_⟩
      · rw [ByteArray.size_append, ByteArray.size_extract, ByteArray.size_extract]
        have := k1.sz
        omega
      · rcases torn k1 hfr (by omega) (c := (clampS 40 (([] ++ [cut] : List Int).getD 0 0)).toNat) (by omega) with (h | h) | h
        · rw [h, hw]; exact .inl ⟨rfl, rfl⟩
        · rw [h, newS_w1 hu (fun hv => by have := hx.1 hv; omega)]; exact .inr ⟨ht, rfl, rfl⟩
        · rw [newS_inv1 hwh (by rw [h]), hw]; exact .inl ⟨rfl, rfl⟩
      · intro _ hcut
        rw [hc.2 hcut, mix_all hf k1.sz, newS_w1 hu (fun hv => by have := hx.1 hv; omega)]
    · rw [if_neg (by rw [hwh]; decide)] at hb
      rw [hb] at hB hC
      simp only [List.nil_append, Option.toList_some, Option.isSome_some] at hB hC
      rw [show ([cut] : List Int) = [] ++ [cut] from rfl, lay0] at hC
      refine ⟨_, s1, (newS 0 1 _ s1).2.1, (newS 0 1 _ s1).2.2, _, by rw [decide_eq_true ht]; exact hB, hC, ?_, k1.sz, rfl, ?_, ?_⟩
      · rw [ByteArray.size_append, ByteArray.size_extract, ByteArray.size_extract]
        have := k0.sz
        omega
      · rcases torn k0 hfr (by omega) (c := (clampS 40 (([] ++ [cut] : List Int).getD 0 0)).toNat) (by omega) with (h | h) | h
        · rw [h, hw]; exact .inl ⟨rfl, rfl⟩
        · rw [h, newS_w0 hu (fun hv => by have := hx.2 hv; omega)]; exact .inr ⟨ht, rfl, rfl⟩
        · rw [newS_inv0 hwh (by rw [h]), hw]; exact .inl ⟨rfl, rfl⟩
      · intro _ hcut
        rw [hc.2 hcut, mix_all hf k0.sz, newS_w0 hu (fun hv => by have := hx.2 hv; omega)]
  · rw [if_neg ht] at hb
    rw [hb] at hB hC
    refine ⟨s0, s1, n, last, _, by rw [decide_eq_false ht]; exact hB, hC, k0.sz, k1.sz, hw, .inl ⟨rfl, rfl⟩, fun hh => absurd hh ht⟩

theorem Keeps_piece {r0 r1 more s : ByteArray} {m : Int} {keep : List Int} (h0 : (r0.size : Int) = 40) (h1 : (r1.size : Int) = 40) (hw : (newS 0 1 r0 r1).2 = (m, s)) (hm : m < 1001) :
    L_law09_SlotKeeps_100018 (more, m, s, ()) ((40, ()), [r0, r1], keep, [], ()) = some ((true, ()), ()) := by
  have hl := newS_lt 0 1 r0 r1
  have hw1 : (newS 0 1 r0 r1).2.1 = m := by rw [hw]
  obtain ⟨q0, q1, hs, z0, z1, ha, hb⟩ := save_any (t := more) h0 h1 (by omega)
  rw [Le_law09_SlotKeeps_100018]
  unfold ltree_law09_SlotKeeps_100018
  rw [hs]
  simp only [Option.bind_some]
  rw [e_Load (by simp), new2]
  simp only [Option.bind_some]
  rw [show decide ((more.size : Int) ≤ 22) = decide (more.size ≤ 22) by rw [Bool.eq_iff_iff]; simp; omega]
  rw [hw1] at ha hl
  by_cases ht : more.size ≤ 22
  · obtain ⟨e1, _⟩ := ha ht
    rw [e1, decide_eq_true ht, u64id (by omega) (by omega)]
    simp [bytes_self]
  · obtain ⟨rfl, rfl⟩ := hb ht
    rw [hw, decide_eq_false ht]
    simp [bytes_self]

theorem Keeps_loop {l : List ByteArray} {cut : Int} {text more x9 x10 : ByteArray} : ∀ (d i : Nat) (S : List ByteArray) (n : Int) (last : ByteArray), Slot2 S n last → n ≤ i → i + d = (l.take 20).length →
    ∃ (S' : List ByteArray) (n' : Int) (last' : ByteArray), Slot2 S' n' last' ∧ n' ≤ 20 ∧
    L_law09_SlotKeeps_7 (l, cut, text, more, last, n, (i : Int), ()) ([], (x9, x10, ()), (40, ()), S, ()) = some ((cut, text, more, last', n', ()), ([], (40, ()), S', ()))
  | 0, i, S, n, last, h, hn, hd => by
    rw [List.length_take] at hd
    refine ⟨S, n, last, h, by omega, ?_⟩
    rw [Le_law09_SlotKeeps_7]
    unfold ltree_law09_SlotKeeps_7
    simp only [cond_decide]
    by_cases h1 : (i : Int) < l.length
    · rw [if_pos h1, if_neg (by omega)]
    · rw [if_neg h1]
  | d + 1, i, S, n, last, h, hn, hd => by
    rw [Le_law09_SlotKeeps_7]
    unfold ltree_law09_SlotKeeps_7
    have hd' := hd
    rw [List.length_take] at hd
    have hi : (i : Int) < l.length := by omega
    have hi4 : (i : Int) < 20 := by omega
    have hi0 : (0 : Int) ≤ i := by omega
    obtain ⟨S', hs, h'⟩ := slot2_save (t := l.getD i ByteArray.empty) h (by omega)
    have hn0 : 0 ≤ n := by
      obtain ⟨s0, s1, n0, t0, n1, t1, rfl, k0, k1, l0, l1, hw⟩ := h
      have := k0.n0
      omega
    simp only [cd_t hi, cd_t hi4, cd_t hi0, Int.toNat_natCast]
    rw [hs]
    simp only [Option.bind_some, cond_decide]
    rw [u64id (n := n + 1) (by omega) (by omega), i64id (n := (i : Int) + 1) (by omega) (by omega), show ((i : Int) + 1) = ((i + 1 : Nat) : Int) by omega]
    by_cases hz : (l.getD i ByteArray.empty).size ≤ 22
    · simp only [if_pos hz] at h' ⊢
      exact Keeps_loop d (i + 1) S' (n + 1) _ h' (by omega) (by omega)
    · simp only [if_neg hz] at h' ⊢
      exact Keeps_loop d (i + 1) S' n _ h' (by omega) (by omega)

theorem p_Keeps {l : List ByteArray} {text more : ByteArray} {cut : Int} : F_law09_SlotKeeps (l, (text, more, ()), cut, ()) () = some (true, ()) := by
  rw [Fe_law09_SlotKeeps]
  unfold tree_law09_SlotKeeps
  rw [e_New (show okN 2 40 by decide)]
  simp only [Option.bind_some, Sum.elim_inr]
  rw [e_fixed9]
  simp only [Option.bind_some, Bool.not_true, cond_false]
  obtain ⟨S, n, last, h, hn, hloop⟩ := Keeps_loop (l := l) (cut := cut) (text := text) (more := more) (x9 := text) (x10 := more) (l.take 20).length 0 _ 0 ByteArray.empty slot2_new (by decide) (by omega)
  rw [show ((0 : Nat) : Int) = 0 from rfl] at hloop
  rw [hloop]
  simp only [Option.bind_some]
  obtain ⟨r0, r1, m, s, P, hB, hC, z0, z1, hw, hor, hfull⟩ := begin_crash (text := text) (cut := cut) h (by omega)
  rw [hB]
  simp only [Option.bind_some]
  rw [hC]
  simp only [Option.bind_some]
  have hl := newS_lt 0 1 r0 r1
  rw [hw] at hl
  rw [e_Load (by simp), new2, hw]
  simp only [Option.bind_some, bne_self_eq_false, cond_false, bytes_self, Bool.not_true]
  rw [show decide ((text.size : Int) ≤ 22) = decide (text.size ≤ 22) by rw [Bool.eq_iff_iff]; simp; omega]
  have hn0 : 0 ≤ n := by
    obtain ⟨s0, s1, n0, t0, n1, t1, rfl, k0, k1, l0, l1, hw⟩ := h
    have := k0.n0
    omega
  have hp := Keeps_piece (more := more) (keep := [] ++ [cut]) z0 z1 hw (by omega)
  rw [u64id (n := n + 1) (by omega) (by omega)]
  simp only [bne_self_eq_false, cond_false, cond_eqi, cond_nei, cond_decide]
  simp only [hp, Option.bind_some]
  rcases hor with ⟨rfl, rfl⟩ | ⟨ht, rfl, rfl⟩
  · simp only [if_true, bytes_self, cond_true]
    by_cases ht : text.size ≤ 22
    · rw [if_pos ht]
      by_cases hc : cut ≥ 40
      · have := hfull ht hc
        omega
      · rw [if_neg hc]
    · rw [if_neg ht]
  · rw [if_neg (by omega), if_pos ht]
    simp only [if_true, bytes_self, Bool.not_true, cond_false, if_pos ht]
    split <;> rfl

theorem plain_Keeps (x : args_law09_SlotKeeps.T) : F_law09_SlotKeeps x () = some (true, ()) := by
  obtain ⟨l, ⟨a, b, _⟩, c, _⟩ := x
  exact p_Keeps

end Go.Proofs.Ytgfanlafbjbkaaa.S2
