/-
  Writes that are pending, each to a sector of its own; what a crash keeps of them; the texts of a log, compared.
-/
import Derived.Test.YtlfedmjjjbhnpaaPwlog
set_option linter.unusedVariables false
set_option linter.unusedSimpArgs false
namespace Go.Proofs.Ytlfedmjjjbhnpaa.S2
open Go

/-- Writes that are pending, each to a sector of its own. -/
structure Pend (S : List ByteArray) (P : List W2) (D0 D : Int → Option Rec4) : Prop where
  safe : ∀ i : Int, 0 ≤ i → i < 8 → SecOk (S.getD i.toNat ByteArray.empty) (D0 i)
  nodup : (P.map (·.1)).Nodup
  pend : ∀ q ∈ P, 0 ≤ q.1 ∧ q.1 < 8 ∧ SecOk q.2 (D q.1) ∧ D q.1 ≠ none
  same : ∀ i : Int, 0 ≤ i → i < 8 → (∀ q ∈ P, q.1 ≠ i) → D i = D0 i

theorem lastW_some {P : List W2} {i : Int} {t : ByteArray} (h : lastW P i = some t) : ∃ q ∈ P, q.1 = i ∧ q.2 = t := by
  unfold lastW at h
  cases hf : P.reverse.find? fun p => p.1 == i with
  | none => rw [hf] at h; cases h
  | some q =>
    rw [hf] at h
    refine ⟨q, List.mem_reverse.1 (List.mem_of_find?_eq_some hf), ?_, by simpa using h⟩
    have := List.find?_some hf
    simpa using this

theorem lastW_none {P : List W2} {i : Int} (h : lastW P i = none) : ∀ q ∈ P, q.1 ≠ i := by
  intro q hq he
  unfold lastW at h
  rw [Option.map_eq_none_iff, List.find?_eq_none] at h
  have := h q (List.mem_reverse.2 hq)
  simp [he] at this

theorem Pend.read {S : List ByteArray} {P : List W2} {D0 D : Int → Option Rec4} (h : Pend S P D0 D) (hS : S.length = 8) {i : Int} (h0 : 0 ≤ i) (h1 : i < 8) : SecOk (readS S P i).1 (D i) := by
  unfold readS
  cases hl : lastW P i with
  | some t =>
    obtain ⟨q, hq, e1, e2⟩ := lastW_some hl
    have := (h.pend q hq).2.2.1
    rw [e1, e2] at this
    exact this
  | none =>
    rw [h.same i h0 h1 (lastW_none hl)]
    have := h.safe i h0 h1
    unfold safeS
    rw [if_pos ⟨h0, by omega⟩]
    exact this

theorem Pend.flush {S : List ByteArray} {P : List W2} {D0 D : Int → Option Rec4} (h : Pend S P D0 D) (hd : DInv 48 S P) (hS : S.length = 8) : Pend (flushS 48 S P) [] D D := by
  refine ⟨fun i h0 h1 => ?_, by simp, fun q hq => (by cases hq), fun i _ _ _ => rfl⟩
  have e := flush_at hd i
  rw [if_pos ⟨h0, by omega⟩] at e
  unfold safeS at e
  have hl : (flushS 48 S P).length = S.length := keepS_len _ _ _ _
  rw [if_pos ⟨h0, by omega⟩] at e
  have e1 := congrArg Prod.fst e
  dsimp only at e1
  rw [e1]
  exact h.read hS h0 h1

/-- A crash lays at most one write into a sector. -/
theorem keep_at {c : Nat → Nat} (hc : ∀ k, (c k : Int) ≤ 48) : ∀ (P : List W2) (k : Nat) (S : List ByteArray), S.length = 8 → (P.map (·.1)).Nodup → (∀ q ∈ P, 0 ≤ q.1 ∧ q.1 < 8) → ∀ i : Int, 0 ≤ i → i < 8 →
    ((∀ q ∈ P, q.1 ≠ i) → (keepS c k S P).getD i.toNat ByteArray.empty = S.getD i.toNat ByteArray.empty) ∧
    (∀ q ∈ P, q.1 = i → ∃ j, (keepS c k S P).getD i.toNat ByteArray.empty = q.2.extract 0 (c j) ++ (S.getD i.toNat ByteArray.empty).extract (c j) (S.getD i.toNat ByteArray.empty).size)
  | [], k, S, hS, hn, hp, i, h0, h1 => ⟨fun _ => rfl, fun q hq => by cases hq⟩
  | p :: l, k, S, hS, hn, hp, i, h0, h1 => by
    have hp0 := hp p List.mem_cons_self
    rw [List.map_cons, List.nodup_cons] at hn
    have ih := keep_at hc l (k + 1) (layW (c k) S p) (by rw [layW_len]; exact hS) hn.2 (fun q hq => hp q (List.mem_cons_of_mem _ hq)) i h0 h1
    have hat := layW_at (size := 48) (c := c k) (safe := S) (p := p) ⟨hp0.1, by omega⟩ i.toNat
    have hk : keepS c k S (p :: l) = keepS c (k + 1) (layW (c k) S p) l := rfl
    rw [hk]
    refine ⟨fun h => ?_, fun q hq he => ?_⟩
    · rw [ih.1 (fun q hq => h q (List.mem_cons_of_mem _ hq)), hat, if_neg]
      have := h p List.mem_cons_self
      omega
    · rcases List.mem_cons.1 hq with rfl | hq
      · have hno : ∀ q' ∈ l, q'.1 ≠ i := fun q' hq' he' => hn.1 (by rw [he, ← he']; exact List.mem_map.2 ⟨q', hq', rfl⟩)
        refine ⟨k, ?_⟩
        rw [ih.1 hno, hat, if_pos (by omega), he]
      · obtain ⟨j, hj⟩ := ih.2 q hq he
        have hne : p.1 ≠ i := fun e => hn.1 (by rw [e, ← he]; exact List.mem_map.2 ⟨q, hq, rfl⟩)
        refine ⟨j, ?_⟩
        rw [hj, hat, if_neg (by omega)]

/-- What the sectors say behind a crash. -/
theorem Pend.crash {S : List ByteArray} {P : List W2} {D0 D : Int → Option Rec4} (h : Pend S P D0 D) (hS : S.length = 8) (hm : ∀ q ∈ P, markOf (D0 q.1) ≠ markOf (D q.1)) {c : Nat → Nat} (hc : ∀ k, (c k : Int) ≤ 48) :
    ∃ D2 : Int → Option Rec4, Reads (keepS c 0 S P) [] D2 ∧ ∀ i : Int, 0 ≤ i → i < 8 → (D2 i = none ∨ D2 i = D0 i ∨ D2 i = D i) ∧ ((∀ q ∈ P, q.1 ≠ i) → D2 i = D0 i) := by
  have hl : (keepS c 0 S P).length = 8 := by rw [keepS_len]; exact hS
  have hone : ∀ i : Int, 0 ≤ i → i < 8 → ∃ z, saysS (readS (keepS c 0 S P) [] i).1 = z ∧ MarkOk (readS (keepS c 0 S P) [] i).1 z ∧ (z = none ∨ z = D0 i ∨ z = D i) ∧ ((∀ q ∈ P, q.1 ≠ i) → z = D0 i) := by
    intro i h0 h1
    have e : (readS (keepS c 0 S P) [] i).1 = (keepS c 0 S P).getD i.toNat ByteArray.empty := by
      show (safeS (keepS c 0 S P) i).1 = _
      unfold safeS
      rw [if_pos ⟨h0, by omega⟩]
    have hk := keep_at hc P 0 S hS h.nodup (fun q hq => ⟨(h.pend q hq).1, (h.pend q hq).2.1⟩) i h0 h1
    have hs := h.safe i h0 h1
    rw [e]
    by_cases hq : ∀ q ∈ P, q.1 ≠ i
    · rw [hk.1 hq]
      exact ⟨D0 i, hs.says, hs.mark, .inr (.inl rfl), fun _ => rfl⟩
    · obtain ⟨q, hq, he⟩ : ∃ q ∈ P, q.1 = i := Classical.byContradiction fun hx => hq fun q hq' he' => hx ⟨q, hq', he'⟩
      obtain ⟨j, hj⟩ := hk.2 q hq he
      have hf := (h.pend q hq).2.2.1
      have hmq := hm q hq
      rw [he] at hf hmq
      obtain ⟨z, z1, z2, z3⟩ := torn_sec hs hf hmq (hc j)
      rw [hj]
      exact ⟨z, z1, z2, z3, fun hno => absurd he (hno q hq)⟩
  refine ⟨fun i => saysS (readS (keepS c 0 S P) [] i).1, ⟨fun i h0 h1 => rfl, fun i h0 h1 => ?_⟩, fun i h0 h1 => ?_⟩
  · obtain ⟨z, z1, z2, _⟩ := hone i h0 h1
    rw [z1]; exact z2
  · obtain ⟨z, z1, _, z3, z4⟩ := hone i h0 h1
    dsimp only
    rw [z1]; exact ⟨z3, z4⟩

/-- A log to which records are appended, behind k0 ones that are safe, by marks from nx0 on. -/
structure Phase (k0 : Nat) (nx0 : Int) (heldA : List W2) (D0 : Int → Option Rec4) (c : Nat) (next : Int) (held : List W2) (S : List ByteArray) (P : List W2) (D : Int → Option Rec4) : Prop where
  log : WLog c 0 0 next held S P D
  pend : Pend S P D0 D
  k : k0 ≤ held.length
  pre : held.take k0 = heldA
  win : ∀ q ∈ P, ∃ j : Nat, k0 ≤ j ∧ j < held.length ∧ q.1 = ((j : Int) + 1) % 8
  num : ∀ j : Nat, k0 ≤ j → j < held.length → (held.getD j (0, ByteArray.empty)).1 = nx0 + (j - k0 : Nat)
  nx : next = nx0 + (held.length - k0 : Nat)
  old : ∀ i : Int, 0 ≤ i → i < 8 → markOf (D0 i) < nx0
  keeps : ∀ j : Nat, j < k0 → D ((j + 1 : Int) % 8) = D0 ((j + 1 : Int) % 8)
  all : ∀ j : Nat, k0 ≤ j → j < held.length → ∃ q ∈ P, q.1 = ((j : Int) + 1) % 8

theorem Phase.append {k0 : Nat} {nx0 : Int} {heldA : List W2} {D0 : Int → Option Rec4} {c : Nat} {next : Int} {held : List W2} {S : List ByteArray} {P : List W2} {D : Int → Option Rec4} (h : Phase k0 nx0 heldA D0 c next held S P D)
    (hc : c + 1 ≤ 1000) {t : ByteArray} (hm : mayA 48 8 next (lastI 0 held + 1) (tailI 0 held) held t) :
    Phase k0 nx0 heldA D0 (c + 1) (next + 1) (held ++ [(next, t)]) S (wrS 48 S P (sectI 0 8 (lastI 0 held + 1)) (frameB next (recB (lastI 0 held + 1) (tailI 0 held) t) 48)) (putD D (lastI 0 held + 1) (next, lastI 0 held + 1, tailI 0 held, t)) := by
  have h8 : held.length ≠ 8 := by have := hm.2.1; omega
  have hlen := h.log.w.l.len
  have hk := h.k
  have hlast : lastI 0 held = held.length := by unfold lastI; omega
  have hn := h.log.w.nc
  have hn1 := h.log.w.n1
  have htl := h.log.w.tail
  have hS := h.log.w.s8
  have hl := h.log.append hc hm
  have hok := mayA_ok hm ⟨by omega, by omega⟩ ⟨by omega, by omega⟩ ⟨by omega, by omega⟩
  have hmw := mayW_frame (n := lastI 0 held + 1) hS hm.1 (by omega)
  have hfs := hok.sect.sz
  have hwr : wrS 48 S P (sectI 0 8 (lastI 0 held + 1)) (frameB next (recB (lastI 0 held + 1) (tailI 0 held) t) 48) = P ++ [(sectI 0 8 (lastI 0 held + 1), frameB next (recB (lastI 0 held + 1) (tailI 0 held) t) 48)] := by
    unfold wrS
    rw [if_pos hmw, pad_full hfs]
  have hsec : sectI 0 8 (lastI 0 held + 1) = (lastI 0 held + 1) % 8 := by unfold sectI; omega
  have hnew : ∀ q ∈ P, q.1 ≠ (lastI 0 held + 1) % 8 := fun q hq e => by
    obtain ⟨j, j1, j2, j3⟩ := h.win q hq
    omega
  refine ⟨hl, ?_, by rw [List.length_append]; omega, ?_, ?_, ?_, ?_, h.old, ?_, ?_⟩
  · rw [hwr, hsec]
    refine ⟨h.pend.safe, ?_, ?_, ?_⟩
    · rw [List.map_append, List.nodup_append]
      refine ⟨h.pend.nodup, by simp, fun a ha b hb => ?_⟩
      simp only [List.map_cons, List.map_nil, List.mem_singleton] at hb
      obtain ⟨q, hq, rfl⟩ := List.mem_map.1 ha
      rw [hb]
      exact hnew q hq
    · intro q hq
      rcases List.mem_append.1 hq with hq | hq
      · have := h.pend.pend q hq
        unfold putD
        rw [if_neg (hnew q hq)]
        exact this
      · rw [List.mem_singleton] at hq
        subst hq
        unfold putD
        dsimp only
        rw [if_pos rfl]
        exact ⟨by omega, by omega, hok, by simp⟩
    · intro i h0 h1 hq
      unfold putD
      rw [if_neg (fun e => hq _ (List.mem_append_right _ List.mem_cons_self) e.symm)]
      exact h.pend.same i h0 h1 fun q hq' => hq q (List.mem_append_left _ hq')
  · rw [List.take_append_of_le_length hk]; exact h.pre
  · intro q hq
    rw [hwr] at hq
    rcases List.mem_append.1 hq with hq | hq
    · obtain ⟨j, j1, j2, j3⟩ := h.win q hq
      exact ⟨j, j1, by rw [List.length_append]; omega, j3⟩
    · rw [List.mem_singleton] at hq
      subst hq
      exact ⟨held.length, hk, by rw [List.length_append, List.length_singleton]; omega, by rw [hsec, hlast]⟩
  · intro j j1 j2
    rw [List.length_append, List.length_singleton] at j2
    by_cases hj : j < held.length
    · rw [getD_app _ _ _ _ hj]; exact h.num j j1 hj
    · obtain rfl : j = held.length := by omega
      have : (held ++ [(next, t)]).getD held.length (0, ByteArray.empty) = (next, t) := by simp [List.getD]
      rw [this]
      exact h.nx
  · rw [List.length_append, List.length_singleton, h.nx]; omega
  · intro j hj
    unfold putD
    rw [if_neg (by omega)]
    exact h.keeps j hj
  · intro j j1 j2
    rw [List.length_append, List.length_singleton] at j2
    rw [hwr]
    by_cases hj : j < held.length
    · obtain ⟨q, q1, q2⟩ := h.all j j1 hj
      exact ⟨q, List.mem_append_left _ q1, q2⟩
    · obtain rfl : j = held.length := by omega
      exact ⟨_, List.mem_append_right _ List.mem_cons_self, by dsimp only; rw [hsec, hlast]⟩

theorem phase_zero : Phase 0 1 [] (fun _ => none) 0 1 [] zero8 [] (fun _ => none) := by
  refine ⟨wlog_zero, ⟨fun i h0 h1 => ?_, by simp, fun q hq => (by cases hq), fun i _ _ _ => rfl⟩, by decide, rfl, fun q hq => (by cases hq), fun j j1 j2 => (by simp at j2), rfl, fun i _ _ => (by show (0 : Int) < 1; decide), fun j hj => (by omega), fun j j1 j2 => by simp at j2⟩
  have hm : zero8.getD i.toNat ByteArray.empty ∈ zero8 := getD_mem (by show i.toNat < 8; omega)
  exact (List.mem_replicate.1 hm).2

/-! ### comparing texts -/

theorem Texts_loop {a b : List ByteArray} (hl : a.length = b.length) (hi : (a.length : Int) < 9223372036854775807) : ∀ (d k : Nat), k + d = a.length →
    L_ref01_Texts_4 (a, b, (k : Int), ()) () = some (if a.drop k = b.drop k then .inr ((), ()) else .inl ((false, ()), ()))
  | 0, k, hk => by
    rw [Le_ref01_Texts_4]
    unfold ltree_ref01_Texts_4
    rw [cd_f (by omega), List.drop_of_length_le (by omega), List.drop_of_length_le (by omega), if_pos rfl]
  | d + 1, k, hk => by
    have ha : k < a.length := by omega
    have hb : k < b.length := by omega
    rw [Le_ref01_Texts_4]
    unfold ltree_ref01_Texts_4
    rw [cd_t (by omega), cd_t (by omega), cd_t (by omega), cd_t (by omega), cd_t (by omega), bytes_beq, Int.toNat_natCast]
    have e1 : a.getD k ByteArray.empty = a[k] := by simp [List.getD, ha]
    have e2 : b.getD k ByteArray.empty = b[k] := by simp [List.getD, hb]
    rw [e1, e2, List.drop_eq_getElem_cons ha, List.drop_eq_getElem_cons hb]
    by_cases h : a[k] = b[k]
    · rw [c_f (by simp [h]), i64id (by omega) (by omega), show ((k : Int) + 1) = ((k + 1 : Nat) : Int) by omega, Texts_loop hl hi d (k + 1) (by omega), h]
      by_cases h2 : a.drop (k + 1) = b.drop (k + 1)
      · rw [if_pos h2, if_pos (by rw [h2])]
      · rw [if_neg h2, if_neg (fun e => h2 (List.cons.inj e).2)]
    · rw [c_t (by simp [h]), if_neg (fun e => h (List.cons.inj e).1)]

theorem e_Texts {a b : List ByteArray} (hi : (a.length : Int) < 9223372036854775807) : F_ref01_Texts (a, b, ()) () = some (decide (a = b), ()) := by
  rw [Fe_ref01_Texts]
  unfold tree_ref01_Texts
  rw [cond_nei]
  by_cases hl : (a.length : Int) = b.length
  · have := Texts_loop (a := a) (b := b) (by omega) hi a.length 0 (by omega)
    rw [List.drop_zero, List.drop_zero, Int.natCast_zero] at this
    rw [if_pos hl, this]
    by_cases h : a = b
    · rw [if_pos h, decide_eq_true h]; rfl
    · rw [if_neg h, decide_eq_false h]; rfl
  · rw [if_neg hl, decide_eq_false (fun e => hl (by rw [e]))]

theorem e_begins {a b : List ByteArray} (hi : (a.length : Int) < 9223372036854775807) : F_law10_begins (a, b, ()) () = some (decide (a.length ≤ b.length ∧ a = b.take a.length), ()) := by
  rw [Fe_law10_begins]
  unfold tree_law10_begins
  by_cases hl : (a.length : Int) ≤ b.length
  · rw [cd_t hl, cd_t hl, e_Texts hi, List.drop_zero, Int.toNat_natCast]
    simp only [Option.bind_some]
    have : decide (a = b.take a.length) = decide (a.length ≤ b.length ∧ a = b.take a.length) := by
      rw [Bool.eq_iff_iff, decide_eq_true_eq, decide_eq_true_eq]
      exact ⟨fun h => ⟨by omega, h⟩, fun h => h.2⟩
    rw [this]
  · rw [cd_f hl, decide_eq_false (fun h => hl (by omega))]
end Go.Proofs.Ytlfedmjjjbhnpaa.S2
