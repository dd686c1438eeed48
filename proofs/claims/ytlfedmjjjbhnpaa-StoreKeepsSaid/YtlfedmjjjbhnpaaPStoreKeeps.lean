/- The stage's theorem: a crash that cuts short the write of a trust. -/
import Derived.Test.YtlfedmjjjbhnpaaGLStoreKeeps
import Derived.Test.YtlfedmjjjbhnpaaP22
set_option linter.unusedVariables false
set_option linter.unusedSimpArgs false
namespace Go.Proofs.Ytlfedmjjjbhnpaa.S2
open Go

theorem saved_new {size : Int} {s0 s1 t : ByteArray} (h : Two size s0 s1) (hn : (newS 0 1 s0 s1).2.1 < 18446744073709551615) (ht : (t.size : Int) ≤ size - 18) :
    ∃ q0 q1, savedG size s0 s1 t = [q0, q1] ∧ Two size q0 q1 ∧ (newS 0 1 q0 q1).2 = ((newS 0 1 s0 s1).2.1 + 1, t) := by
  have hl := newS_lt 0 1 s0 s1
  have hx := newS_maxG s0 s1
  have hok := (okG (t := t) h.lo h.hi hl.1).2 ht
  have hf := frameB_size hok
  have hu := unf_frame hok (by omega) (by omega)
  unfold savedG
  rw [if_pos ht]
  rcases newS_whichG s0 s1 with hwh | hwh
  · rw [if_pos hwh]
    exact ⟨_, _, rfl, ⟨h.lo, h.hi, h.h0, hf⟩, by rw [newS_w1G hu (fun hv => by have := hx.1 hv; omega)]⟩
  · rw [if_neg (by rw [hwh]; decide)]
    exact ⟨_, _, rfl, ⟨h.lo, h.hi, hf, h.h1⟩, by rw [newS_w0G hu (fun hv => by have := hx.2 hv; omega)]⟩

theorem two_trust {size : Int} {s0 s1 : ByteArray} {n : Int} {t : TrT} (hn : 0 < n) (ht : TrOk t) (hm : mayT t) (hw : (newS 0 1 s0 s1).2 = (n, textB t)) : trustD [s0, s1] [] = (t, true) := by
  unfold trustD
  rw [new2G, hw]
  dsimp only
  rw [if_neg (by omega), par_text ht, if_pos hm]

theorem Keeps_loop {l : List ActS} {cut : Int} {xt : Int × Int × Int × Int × ByteArray × List Int × Unit} (hl : ∀ j, j < l.length → ActOk (l.getD j (0, 0, 0, 0, ByteArray.empty, []))) : ∀ (d k : Nat) (S : List ByteArray) (n : Int) (t : TrT), StG 128 S n t → n ≤ k + 1 → k + d = (l.take 40).length →
    ∃ S' n' t', StG 128 S' n' t' ∧ n' ≤ 41 ∧ L_law22_StoreKeeps_8 (l, cut, (k : Int), ()) ([], [], xt, (), (128, ()), S, (), (128, ()), S, ()) = some ((cut, ()), ([], [], xt, (), (128, ()), S', (), (128, ()), S', ()))
  | 0, k, S, n, t, h, hn, hk => by
    obtain ⟨y1, y2, y3, y4, y5, y6, ⟨⟩⟩ := xt
    rw [List.length_take] at hk
    refine ⟨S, n, t, h, by omega, ?_⟩
    rw [Le_law22_StoreKeeps_8]
    unfold ltree_law22_StoreKeeps_8
    simp only [cond_decide]
    by_cases h1 : (k : Int) < l.length
    · rw [if_pos h1, if_neg (show ¬ (k : Int) < 40 by omega)]
    · rw [if_neg h1]
  | d + 1, k, S, n, t, h, hn, hk => by
    have hk2 := hk
    rw [List.length_take] at hk2
    have hi : (k : Int) < l.length := by omega
    have hi4 : (k : Int) < 40 := by omega
    have hi0 : (0 : Int) ≤ k := by omega
    have hx := hl k (by omega)
    have hrec := fun S n t h hn => Keeps_loop (cut := cut) (xt := xt) hl d (k + 1) S n t h hn (by omega)
    obtain ⟨y1, y2, y3, y4, y5, y6, ⟨⟩⟩ := xt
    rw [Le_law22_StoreKeeps_8]
    unfold ltree_law22_StoreKeeps_8
    simp only [cd_t hi, cd_t hi4, cd_t hi0, Int.toNat_natCast, cond_decide]
    rw [i64id (n := (k : Int) + 1) (by omega) (by omega), show ((k : Int) + 1) = ((k + 1 : Nat) : Int) by omega]
    by_cases h0 : (l.getD k (0, 0, 0, 0, ByteArray.empty, [])).1 ≥ 0
    · rw [if_pos h0]
      by_cases h3 : (l.getD k (0, 0, 0, 0, ByteArray.empty, [])).1 ≤ 3
      · rw [if_pos h3, e_done hx (slot_D h.slot) (by simp)]
        obtain ⟨S', n', e1, e2, e3, _⟩ := act_stG h (by omega) hx h0 h3
        rw [e1]
        simp only [Option.bind_some]
        exact hrec S' n' _ e2 (by omega)
      · rw [if_neg h3]
        exact hrec S n t h (by omega)
    · rw [if_neg h0]
      exact hrec S n t h (by omega)

theorem Keeps28 {r0 r1 : ByteArray} {m : Int} {last : ByteArray} {S : List ByteArray} {keep : List Int} {xt : Int × Int × Int × Int × ByteArray × List Int × Unit} {t u v : TrT} (h : Two 128 r0 r1) (hw : (newS 0 1 r0 r1).2 = (m, last)) (hm : m < 1000) (hm0 : 0 ≤ m) :
    L_law22_StoreKeeps_100028 () (xt, t, u, v, (), (128, ()), [r0, r1], (), (128, ()), S, [], keep, [], ()) = some ((true, ()), ()) := by
  obtain ⟨y1, y2, y3, y4, y5, y6, ⟨⟩⟩ := xt
  obtain ⟨t1, t2, t3, t4, t5, t6, ⟨⟩⟩ := t
  obtain ⟨u1', u2, u3, u4, u5, u6, ⟨⟩⟩ := u
  obtain ⟨v1, v2, v3, v4, v5, v6, ⟨⟩⟩ := v
  have hw1 : (newS 0 1 r0 r1).2.1 = m := by rw [hw]
  have okr := reset_ok (root := 1) u1
  have zr : (textB (resetT 1)).size ≤ 60 := text_size okr
  obtain ⟨h1, h2⟩ := saved_flush (t := textB (resetT 1)) h (by omega)
  obtain ⟨q0, q1, e1, e2, e3⟩ := saved_new (t := textB (resetT 1)) h (by omega) (by omega)
  have hdo : doD 128 [r0, r1] [] (some (resetT 1)) = (true, [q0, q1], []) := by
    unfold doD
    dsimp only
    rw [h1, decide_eq_true (by omega), if_pos rfl, h2 (by omega), e1]
  rw [hw1] at e3
  have htr := two_trust (size := 128) (by omega) okr (may_reset 1) e3
  rw [Le_law22_StoreKeeps_100028]
  unfold ltree_law22_StoreKeeps_100028
  rw [e_Reset u1 h.D (by simp), hdo]
  simp only [Option.bind_some, cond_true]
  rw [e_Trust e2.D, htr]
  simp only [Option.bind_some, cond_true]
  rw [e_Pending]
  unfold resetT
  simp only [Option.bind_some, beq_self_eq_true, bytes_self, Bool.and_true, Bool.false_xor, cond_true]
  rfl

theorem Keeps20 {S S2 : List ByteArray} {n cut : Int} {t u : TrT} {xt : Int × Int × Int × Int × ByteArray × List Int × Unit} (h : StG 128 S n t) (hn : n < 500) (hu : TrOk u) (hm : mayT u) (hfit : ((textB u).size : Int) ≤ 128 - 18) :
    L_law22_StoreKeeps_100020 (cut, true, ()) ([], xt, t, u, (), (128, ()), S, (), (128, ()), S2, [], ()) = some ((true, ()), ()) := by
  have hbeg := beg_DInv (a := 0) (b := 1) (t := textB u) (slot_D h.slot) (by simp)
  have hB := e_Begin (a := 0) (b := 1) (t := textB u) (slot_D h.slot)
  have hC := e_Crash (keep := [] ++ [cut]) hbeg
  have hcl := clampS_in (size := 128) (x := cut) (by decide)
  have hc0 : (clampS 128 (([] ++ [cut] : List Int).getD 0 0)) = clampS 128 cut := rfl
  obtain ⟨r0, r1, c1, c2, c3, c4, c5⟩ := crash_G h.slot (by omega) hfit (fun k => (clampS 128 (([] ++ [cut] : List Int).getD k 0)).toNat) (by rw [hc0]; omega)
  rw [List.nil_append (as := (begD 128 S [] 0 1 (textB u)).toList)] at hC hB hbeg
  rw [c1] at hC
  have hsome : (begD 128 S [] 0 1 (textB u)).isSome = true := by
    obtain ⟨s0, s1, rfl, htwo, hw⟩ := h.slot.two
    have hw1 : (newS 0 1 s0 s1).2.1 = n := by rw [hw]
    rw [(saved_flush htwo (by omega)).1, decide_eq_true hfit]
  rw [hsome] at hB
  have hpos := h.pos
  -- what is trusted then
  obtain ⟨v, m, hv, hmv, hor, hfull, hnone⟩ : ∃ (v : TrT) (m : Int), (newS 0 1 r0 r1).2 = (m, textB v) ∧ (0 < m ∧ m < 1000 ∧ trustD [r0, r1] [] = (v, true)) ∧ (v = t ∨ v = u) ∧ (cut ≥ 128 → v = u) ∧ (cut ≤ 0 → v = t) := by
    have f1 : cut ≥ 128 → (newS 0 1 r0 r1).2 = (n + 1, textB u) := fun hc => c4 (by
      rw [hc0]; unfold clampS; rw [if_neg (by omega : ¬ 0 > cut)]; split <;> omega)
    have f2 : cut ≤ 0 → (newS 0 1 r0 r1).2 = (n, textB t) := fun hc => c5 (by
      rw [hc0]; unfold clampS; split <;> split <;> omega)
    rcases c3 with c3 | c3
    · refine ⟨t, n, c3, ⟨hpos, by omega, two_trust (size := 128) hpos h.ok h.may c3⟩, .inl rfl, fun hc => ?_, fun _ => rfl⟩
      have := f1 hc
      rw [c3] at this
      have := congrArg Prod.fst this
      dsimp only at this
      omega
    · refine ⟨u, n + 1, c3, ⟨by omega, by omega, two_trust (size := 128) (by omega) hu hm c3⟩, .inr rfl, fun _ => rfl, fun hc => ?_⟩
      have := f2 hc
      rw [c3] at this
      have := congrArg Prod.fst this
      dsimp only at this
      omega
  have h28 := fun (w : TrT) => Keeps28 (S := S2) (keep := [] ++ [cut]) (xt := xt) (t := t) (u := u) (v := w) c2 hv hmv.2.1 (by omega)
  have hT := e_Text hu
  obtain ⟨y1, y2, y3, y4, y5, y6, ⟨⟩⟩ := xt
  obtain ⟨t1, t2, t3, t4, t5, t6, ⟨⟩⟩ := t
  obtain ⟨u1', u2, u3, u4, u5, u6, ⟨⟩⟩ := u
  rw [Le_law22_StoreKeeps_100020]
  unfold ltree_law22_StoreKeeps_100020
  simp only [Bool.not_true, cond_false]
  rw [hT]
  simp only [Option.bind_some]
  rw [hB]
  simp only [Option.bind_some, Bool.not_true, cond_false]
  rw [hC]
  simp only [Option.bind_some]
  rw [e_Trust c2.D, hmv.2.2]
  simp only [Option.bind_some, Bool.not_true, cond_false]
  have h28' := h28 v
  obtain ⟨v1, v2, v3, v4, v5, v6, ⟨⟩⟩ := v
  dsimp only at h28' ⊢
  simp only [h28', Option.bind_some, cond_decide]
  have hA : (cut ≤ 0 → (v1 == t1 && (v2 == t2 && (v3 == t3 && (v4 == t4 && (v5 == t5 && (v6.toList == t6.toList && true)))))) = true) := by
    intro hc
    have := hnone hc
    simp only [Prod.mk.injEq] at this
    obtain ⟨rfl, rfl, rfl, rfl, rfl, rfl, _⟩ := this
    simp
  have hB' : (cut ≥ 128 → (v1 == u1' && (v2 == u2 && (v3 == u3 && (v4 == u4 && (v5 == u5 && (v6.toList == u6.toList && true)))))) = true) := by
    intro hc
    have := hfull hc
    simp only [Prod.mk.injEq] at this
    obtain ⟨rfl, rfl, rfl, rfl, rfl, rfl, _⟩ := this
    simp
  have hO : (v1 == t1 && (v2 == t2 && (v3 == t3 && (v4 == t4 && (v5 == t5 && (v6.toList == t6.toList && true)))))) = true ∨ (v1 == u1' && (v2 == u2 && (v3 == u3 && (v4 == u4 && (v5 == u5 && (v6.toList == u6.toList && true)))))) = true := by
    rcases hor with h | h
    · left
      simp only [Prod.mk.injEq] at h
      obtain ⟨rfl, rfl, rfl, rfl, rfl, rfl, _⟩ := h
      simp
    · right
      simp only [Prod.mk.injEq] at h
      obtain ⟨rfl, rfl, rfl, rfl, rfl, rfl, _⟩ := h
      simp
  generalize (v1 == t1 && (v2 == t2 && (v3 == t3 && (v4 == t4 && (v5 == t5 && (v6.toList == t6.toList && true)))))) = A at hA hO ⊢
  generalize (v1 == u1' && (v2 == u2 && (v3 == u3 && (v4 == u4 && (v5 == u5 && (v6.toList == u6.toList && true)))))) = B at hB' hO ⊢
  by_cases g1 : cut ≥ 128
  · have b := hB' g1
    subst b
    have g2 : ¬ cut ≤ 0 := by omega
    simp only [if_pos g1, if_neg g2]
    cases A <;> rfl
  · simp only [if_neg g1]
    by_cases g2 : cut ≤ 0
    · have b := hA g2
      subst b
      simp only [if_pos g2]
      cases B <;> rfl
    · simp only [if_neg g2]
      cases A <;> cases B <;> first | rfl | (simp at hO)

theorem p_Keeps {l : List ActS} {x : ActS} {cut : Int} (hl : ∀ j, j < l.length → ActOk (l.getD j (0, 0, 0, 0, ByteArray.empty, []))) (hx : ActOk x) :
    F_law22_StoreKeeps (l, (x.1, x.2.1, x.2.2.1, x.2.2.2.1, x.2.2.2.2.1, x.2.2.2.2.2, ()), cut, ()) () = some (true, ()) := by
  rw [Fe_law22_StoreKeeps]
  unfold tree_law22_StoreKeeps
  have hS := slotG_new (size := 128) (by decide) (by decide)
  rw [e_made (show okN 2 128 by decide), if_neg (by decide)]
  simp only [Option.bind_some, Sum.elim_inl]
  rw [e_fixed22]
  simp only [Option.bind_some, Bool.not_true, cond_false]
  have h7 : u64I 7 := by unfold u64I; decide
  rw [e_Reset h7 (slot_D hS) (by simp)]
  have okr := reset_ok h7
  have zr : (textB (resetT 7)).size ≤ 60 := text_size okr
  obtain ⟨S1, e1, g1, _⟩ := st_save hS (by decide) okr (may_reset 7)
  have k1 := g1 (by omega)
  rw [e1]
  simp only [Option.bind_some]
  obtain ⟨S, n, t, h, hn, hloop⟩ := Keeps_loop (cut := cut) (xt := (x.1, x.2.1, x.2.2.1, x.2.2.2.1, x.2.2.2.2.1, x.2.2.2.2.2, ())) hl (l.take 40).length 0 S1 1 _ k1 (by omega) (by omega)
  rw [show ((0 : Nat) : Int) = 0 from rfl] at hloop
  rw [hloop]
  simp only [Option.bind_some]
  rw [e_Trust (slot_D h.slot), h.trust]
  simp only [Option.bind_some, cond_decide]
  by_cases h0 : x.1 < 0
  · rw [if_pos h0]
  · rw [if_neg h0]
    by_cases h3 : x.1 > 3
    · rw [if_pos h3]
    · rw [if_neg h3, e_done hx (slot_D h.slot) (by simp)]
      obtain ⟨S', n', a1, a2, a3, a4⟩ := act_stG h (by omega) hx (by omega) (by omega)
      rw [a1]
      simp only [Option.bind_some]
      rw [e_Trust (slot_D a2.slot), a2.trust]
      simp only [Option.bind_some, Bool.not_true, cond_false]
      cases hb : (stepT 128 t (opT x (t, true))).1 with
      | false =>
        obtain ⟨rfl, ht⟩ := a4 hb
        rw [ht]
        simp only [Bool.not_false, cond_true, beq_self_eq_true, bytes_self, Bool.and_true, Bool.xor_self, cond_false]
        rw [Le_law22_StoreKeeps_100020]
        rfl
      | true =>
        simp only [Bool.not_true, cond_false]
        obtain ⟨u, hu1, hu2, hu3⟩ : ∃ u, opT x (t, true) = some u ∧ ((textB u).size : Int) ≤ 128 - 18 ∧ (stepT 128 t (opT x (t, true))).2 = u := by
          cases ho : opT x (t, true) with
          | none => rw [ho] at hb; cases hb
          | some u =>
            rw [ho] at hb
            unfold stepT at hb ⊢
            dsimp only at hb ⊢
            by_cases hf : ((textB u).size : Int) ≤ 128 - 18
            · exact ⟨u, rfl, hf, by rw [if_pos hf]⟩
            · rw [if_neg hf] at hb; cases hb
        obtain ⟨k3, k4⟩ := opT_ok hx (fun _ => h.ok) u hu1
        rw [hu3]
        have := Keeps20 (S2 := S') (cut := cut) (xt := (x.1, x.2.1, x.2.2.1, x.2.2.2.1, x.2.2.2.2.1, x.2.2.2.2.2, ())) h (by omega) k3 k4 hu2
        obtain ⟨t1, t2, t3, t4, t5, t6, ⟨⟩⟩ := t
        obtain ⟨u1', u2, u3, u4, u5, u6, ⟨⟩⟩ := u
        rw [this]
        rfl
end Go.Proofs.Ytlfedmjjjbhnpaa.S2
